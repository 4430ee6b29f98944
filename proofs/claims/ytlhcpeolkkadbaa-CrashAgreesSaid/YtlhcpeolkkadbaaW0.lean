/- walks, printed by wip/gen -/
import Derived.Test.YtlhcpeolkkadbaaF
import Derived.Test.YtlhcpeolkkadbaaP
namespace Go.Proofs.Ytlhcpeolkkadbaa
open Go.RowKit
set_option linter.unusedVariables false
set_option linter.unusedSimpArgs false

set_option maxRecDepth 100000 in
theorem round_any (n m : Int) (w0 : World) (hm : m ≤ 9223372036854775807) :
    Fn Try.prog 24 #[.int .i64 n, .int .i64 m] w0 (fun v w' => v = .int .i64 (rnd n m) ∧ Sat w0 w' []) := by
  refine c_enter (N := 13) (l := [_, _]) Try.func24 rfl rfl (fun a w hF hS => ?_)
  refine c_seq ?_
  refine c_region ?_
  refine seq_yl hF (wn_none rfl) rfl rfl (yl_assign hF rfl rfl) ?_
  clear hF; intro a hF
  refine wpList_nil ?_
  refine then_n ?_
  refine c_seq ?_
  refine c_seq ?_
  refine c_region ?_
  refine seq_yl hF (wn_none rfl) rfl rfl (yl_move hF rfl rfl) ?_
  clear hF; intro a hF
  refine seq_yl hF (wn_none rfl) rfl rfl (yl_bin hF rfl rfl rfl rfl (fun _ => run_lss)) ?_
  clear hF; intro a hF
  refine wpList_nil ?_
  refine then_n ?_
  refine c_cond hF rfl (fun hc1 => ?_) (fun hc1 => ?_)
  · first | (replace hc1 := of_decide_eq_true hc1) | (replace hc1 := of_decide_eq_false (bnot_t hc1)) | (subst hc1) | (replace hc1 := bnot_t hc1; subst hc1) | (replace hc1 := bnot_t hc1) | skip
    refine c_seq ?_
    refine c_region ?_
    refine seq_yl hF (wn_none rfl) rfl rfl (yl_assign hF rfl rfl) ?_
    clear hF; intro a hF
    refine wpList_nil ?_
    refine then_n ?_
    refine wp_ret ?_
    refine then_r ?_
    refine ret_t hF rfl rfl ?_
    exact ⟨_, rfl, congrArg (Value.int .i64) (by first | exact (if_pos (by omega)).symm | exact round_eq (by omega) hm), (hS.sub [] (by decide) (by first | rfl | simp) (by simp))⟩
  · first | (replace hc1 := of_decide_eq_false hc1) | (replace hc1 := of_decide_eq_true (bnot_f hc1)) | (subst hc1) | (replace hc1 := bnot_f hc1; subst hc1) | (replace hc1 := bnot_f hc1) | skip
    refine wp_skip ?_
    refine then_n ?_
    refine c_seq ?_
    refine c_region ?_
    refine seq_yl hF (wn_none rfl) rfl rfl (yl_move hF rfl rfl) ?_
    clear hF; intro a hF
    refine seq_yl hF (wn_none rfl) rfl rfl (yl_conv hF rfl rfl (fun _ => run_cnv Try.underlying3 Try.underlying79)) ?_
    clear hF; intro a hF
    refine seq_yl hF (wn_none rfl) rfl rfl (yl_move hF rfl rfl) ?_
    clear hF; intro a hF
    refine seq_yl hF (wn_none rfl) rfl rfl (yl_conv hF rfl rfl (fun _ => run_cnv Try.underlying3 Try.underlying79)) ?_
    clear hF; intro a hF
    refine seq_yl hF (wn_none rfl) rfl rfl (yl_bin hF rfl rfl rfl rfl (fun _ => run_rem (by rw [wrap_u64]; omega))) ?_
    clear hF; intro a hF
    refine seq_yl hF (wn_none rfl) rfl rfl (yl_conv hF rfl rfl (fun _ => run_cnv Try.underlying79 Try.underlying3)) ?_
    clear hF; intro a hF
    refine seq_yl hF (wn_none rfl) rfl rfl (yl_assign hF rfl rfl) ?_
    clear hF; intro a hF
    refine wpList_nil ?_
    refine then_n ?_
    refine wp_ret ?_
    refine ret_t hF rfl rfl ?_
    exact ⟨_, rfl, congrArg (Value.int .i64) (by first | exact (if_pos (by omega)).symm | exact round_eq (by omega) hm), (hS.sub [] (by decide) (by first | rfl | simp) (by simp))⟩

set_option maxRecDepth 100000 in
theorem imValid_any (im : ByteArray) (w0 : World) :
    Fn Try.prog 58 #[.string im] w0 (fun v w' => v = .bool (decide (okI (im.size : Int))) ∧ Sat w0 w' []) := by
  refine c_enter (N := 12) (l := [_]) Try.func58 rfl rfl (fun a w hF hS => ?_)
  refine c_seq ?_
  refine c_region ?_
  refine seq_yl hF (wn_none rfl) rfl rfl (yl_assign hF rfl rfl) ?_
  clear hF; intro a hF
  refine wpList_nil ?_
  refine then_n ?_
  refine c_seq ?_
  refine c_region ?_
  refine seq_yl hF (wn_none rfl) rfl rfl (yl_move hF rfl rfl) ?_
  clear hF; intro a hF
  refine seq_yl hF (wn_none rfl) rfl rfl (yl_len hF rfl rfl (fun _ => run_lenStr Try.underlying9)) ?_
  clear hF; intro a hF
  refine seq_yl hF (wn_none rfl) rfl rfl (yl_bin hF rfl rfl rfl rfl (fun _ => run_remN (by omega) (by omega))) ?_
  clear hF; intro a hF
  refine seq_yl hF (wn_none rfl) rfl rfl (yl_bin hF rfl rfl rfl rfl (fun _ => run_eql)) ?_
  clear hF; intro a hF
  refine seq_yl hF (wn_none rfl) rfl rfl (yl_move hF rfl rfl) ?_
  clear hF; intro a hF
  refine fr_split hF (fun hc2 hF => ?_) (fun hc2 hF => ?_)
  · first | (replace hc2 := of_decide_eq_true hc2) | (replace hc2 := of_decide_eq_false (bnot_t hc2)) | (subst hc2) | (replace hc2 := bnot_t hc2; subst hc2) | (replace hc2 := bnot_t hc2) | skip
    try (have hc2x := hc2; simp only [okS, okI, okW, okP] at hc2x)
    refine seq_yl hF (wn_t hF rfl rfl rfl rfl) rfl rfl (yl_move hF rfl rfl) ?_
    clear hF; intro a hF
    refine seq_yl hF (wn_t hF rfl rfl rfl rfl) rfl rfl (yl_len hF rfl rfl (fun _ => run_lenStr Try.underlying9)) ?_
    clear hF; intro a hF
    refine seq_yl hF (wn_t hF rfl rfl rfl rfl) rfl rfl (yl_bin hF rfl rfl rfl rfl (fun _ => run_leq)) ?_
    clear hF; intro a hF
    refine seq_yl hF (wn_none rfl) rfl rfl (yl_pick (u := _) (v := undef) hF rfl rfl (fun _ => rfl) (fun h => by cases h)) ?_
    clear hF; intro a hF
    refine seq_yl hF (wn_none rfl) rfl rfl (yl_assign hF rfl rfl) ?_
    clear hF; intro a hF
    refine wpList_nil ?_
    refine then_n ?_
    refine wp_ret ?_
    refine ret_t hF rfl rfl ?_
    exact ⟨_, rfl, congrArg Value.bool (dec_d (by constructor <;> intro _ <;> (unfold okI at *; omega))), (hS.sub [] (by decide) (by first | rfl | simp) (by simp))⟩
  · first | (replace hc2 := of_decide_eq_false hc2) | (replace hc2 := of_decide_eq_true (bnot_f hc2)) | (subst hc2) | (replace hc2 := bnot_f hc2; subst hc2) | (replace hc2 := bnot_f hc2) | skip
    try (have hc2x := hc2; simp only [okS, okI, okW, okP] at hc2x)
    refine seq_skip hF (wn_f hF rfl rfl rfl rfl) rfl rfl ?_
    clear hF; intro a hF
    refine seq_skip hF (wn_f hF rfl rfl rfl rfl) rfl rfl ?_
    clear hF; intro a hF
    refine seq_skip hF (wn_f hF rfl rfl rfl rfl) rfl rfl ?_
    clear hF; intro a hF
    refine seq_yl hF (wn_none rfl) rfl rfl (yl_pick (u := _) (v := undef) hF rfl rfl (fun h => by cases h) (fun _ => rfl)) ?_
    clear hF; intro a hF
    refine seq_yl hF (wn_none rfl) rfl rfl (yl_assign hF rfl rfl) ?_
    clear hF; intro a hF
    refine wpList_nil ?_
    refine then_n ?_
    refine wp_ret ?_
    refine ret_t hF rfl rfl ?_
    exact ⟨_, rfl, congrArg Value.bool (dec_f (by (unfold okI at *; omega))), (hS.sub [] (by decide) (by first | rfl | simp) (by simp))⟩

set_option maxRecDepth 100000 in
theorem imValid2_any (im : ByteArray) (w0 : World) :
    Fn Try.prog 44 #[.string im] w0 (fun v w' => v = .bool (decide (okI (im.size : Int))) ∧ Sat w0 w' []) := by
  refine c_enter (N := 12) (l := [_]) Try.func44 rfl rfl (fun a w hF hS => ?_)
  refine c_seq ?_
  refine c_region ?_
  refine seq_yl hF (wn_none rfl) rfl rfl (yl_assign hF rfl rfl) ?_
  clear hF; intro a hF
  refine wpList_nil ?_
  refine then_n ?_
  refine c_seq ?_
  refine c_region ?_
  refine seq_yl hF (wn_none rfl) rfl rfl (yl_move hF rfl rfl) ?_
  clear hF; intro a hF
  refine seq_yl hF (wn_none rfl) rfl rfl (yl_len hF rfl rfl (fun _ => run_lenStr Try.underlying9)) ?_
  clear hF; intro a hF
  refine seq_yl hF (wn_none rfl) rfl rfl (yl_bin hF rfl rfl rfl rfl (fun _ => run_remN (by omega) (by omega))) ?_
  clear hF; intro a hF
  refine seq_yl hF (wn_none rfl) rfl rfl (yl_bin hF rfl rfl rfl rfl (fun _ => run_eql)) ?_
  clear hF; intro a hF
  refine seq_yl hF (wn_none rfl) rfl rfl (yl_move hF rfl rfl) ?_
  clear hF; intro a hF
  refine fr_split hF (fun hc3 hF => ?_) (fun hc3 hF => ?_)
  · first | (replace hc3 := of_decide_eq_true hc3) | (replace hc3 := of_decide_eq_false (bnot_t hc3)) | (subst hc3) | (replace hc3 := bnot_t hc3; subst hc3) | (replace hc3 := bnot_t hc3) | skip
    try (have hc3x := hc3; simp only [okS, okI, okW, okP] at hc3x)
    refine seq_yl hF (wn_t hF rfl rfl rfl rfl) rfl rfl (yl_move hF rfl rfl) ?_
    clear hF; intro a hF
    refine seq_yl hF (wn_t hF rfl rfl rfl rfl) rfl rfl (yl_len hF rfl rfl (fun _ => run_lenStr Try.underlying9)) ?_
    clear hF; intro a hF
    refine seq_yl hF (wn_t hF rfl rfl rfl rfl) rfl rfl (yl_bin hF rfl rfl rfl rfl (fun _ => run_leq)) ?_
    clear hF; intro a hF
    refine seq_yl hF (wn_none rfl) rfl rfl (yl_pick (u := _) (v := undef) hF rfl rfl (fun _ => rfl) (fun h => by cases h)) ?_
    clear hF; intro a hF
    refine seq_yl hF (wn_none rfl) rfl rfl (yl_assign hF rfl rfl) ?_
    clear hF; intro a hF
    refine wpList_nil ?_
    refine then_n ?_
    refine wp_ret ?_
    refine ret_t hF rfl rfl ?_
    exact ⟨_, rfl, congrArg Value.bool (dec_d (by constructor <;> intro _ <;> (unfold okI at *; omega))), (hS.sub [] (by decide) (by first | rfl | simp) (by simp))⟩
  · first | (replace hc3 := of_decide_eq_false hc3) | (replace hc3 := of_decide_eq_true (bnot_f hc3)) | (subst hc3) | (replace hc3 := bnot_f hc3; subst hc3) | (replace hc3 := bnot_f hc3) | skip
    try (have hc3x := hc3; simp only [okS, okI, okW, okP] at hc3x)
    refine seq_skip hF (wn_f hF rfl rfl rfl rfl) rfl rfl ?_
    clear hF; intro a hF
    refine seq_skip hF (wn_f hF rfl rfl rfl rfl) rfl rfl ?_
    clear hF; intro a hF
    refine seq_skip hF (wn_f hF rfl rfl rfl rfl) rfl rfl ?_
    clear hF; intro a hF
    refine seq_yl hF (wn_none rfl) rfl rfl (yl_pick (u := _) (v := undef) hF rfl rfl (fun h => by cases h) (fun _ => rfl)) ?_
    clear hF; intro a hF
    refine seq_yl hF (wn_none rfl) rfl rfl (yl_assign hF rfl rfl) ?_
    clear hF; intro a hF
    refine wpList_nil ?_
    refine then_n ?_
    refine wp_ret ?_
    refine ret_t hF rfl rfl ?_
    exact ⟨_, rfl, congrArg Value.bool (dec_f (by (unfold okI at *; omega))), (hS.sub [] (by decide) (by first | rfl | simp) (by simp))⟩

set_option maxRecDepth 100000 in
theorem span_any (im : ByteArray) (s c : Int) (w0 : World) (hz : (im.size : Int) ≤ 9223372036854775807) :
    Fn Try.prog 56 #[.string im, .int .i64 s, .int .i64 c] w0 (fun v w' => ∃ (a b : Int) (e : Bool), v = .tuple #[.int .i64 a, .int .i64 b, .bool e] ∧ ((okS (im.size : Int) s c ∧ a = s * 8 ∧ b = (s + c) * 8 ∧ e = true) ∨ (¬ okS (im.size : Int) s c ∧ a = 0 ∧ b = 0 ∧ e = false)) ∧ Sat w0 w' []) := by
  refine c_enter (N := 42) (l := [_, _, _]) Try.func56 rfl rfl (fun a w hF hS => ?_)
  refine c_seq ?_
  refine c_region ?_
  refine seq_yl hF (wn_none rfl) rfl rfl (yl_assign hF rfl rfl) ?_
  clear hF; intro a hF
  refine seq_yl hF (wn_none rfl) rfl rfl (yl_assign hF rfl rfl) ?_
  clear hF; intro a hF
  refine seq_yl hF (wn_none rfl) rfl rfl (yl_assign hF rfl rfl) ?_
  clear hF; intro a hF
  refine wpList_nil ?_
  refine then_n ?_
  refine c_seq ?_
  refine c_region ?_
  refine seq_yl hF (wn_none rfl) rfl rfl (yl_move hF rfl rfl) ?_
  clear hF; intro a hF
  refine seq_yl hF (wn_none rfl) rfl rfl (yl_len hF rfl rfl (fun _ => run_lenStr Try.underlying9)) ?_
  clear hF; intro a hF
  refine seq_yl hF (wn_none rfl) rfl rfl (yl_bin hF rfl rfl rfl rfl (fun _ => run_quoN (by omega) (by omega) (by omega))) ?_
  clear hF; intro a hF
  refine seq_yl hF (wn_none rfl) rfl rfl (yl_assign hF rfl rfl) ?_
  clear hF; intro a hF
  refine wpList_nil ?_
  refine then_n ?_
  refine c_seq ?_
  refine c_seq ?_
  refine c_region ?_
  refine seq_yl hF (wn_none rfl) rfl rfl (yl_move hF rfl rfl) ?_
  clear hF; intro a hF
  refine seq_wp (wn_none rfl) (wp_call (vs := [_]) hF rfl rfl rfl rfl cf58 (imValid_any im _) ?_)
  clear hF; rintro _ w ⟨rfl, hS1⟩ a hF
  replace hS := hS.callB hS1 rfl; clear hS1
  refine seq_yl hF (wn_none rfl) rfl rfl (yl_un hF rfl rfl (fun _ => run_not)) ?_
  clear hF; intro a hF
  refine seq_yl hF (wn_none rfl) rfl rfl (yl_move hF rfl rfl) ?_
  clear hF; intro a hF
  refine fr_split hF (fun hc4 hF => ?_) (fun hc4 hF => ?_)
  · first | (replace hc4 := of_decide_eq_true hc4) | (replace hc4 := of_decide_eq_false (bnot_t hc4)) | (subst hc4) | (replace hc4 := bnot_t hc4; subst hc4) | (replace hc4 := bnot_t hc4) | skip
    try (have hc4x := hc4; simp only [okS, okI, okW, okP] at hc4x)
    refine seq_skip hF (wn_f hF rfl rfl rfl rfl) rfl rfl ?_
    clear hF; intro a hF
    refine seq_skip hF (wn_f hF rfl rfl rfl rfl) rfl rfl ?_
    clear hF; intro a hF
    refine seq_yl hF (wn_none rfl) rfl rfl (yl_pick (u := _) (v := undef) hF rfl rfl (fun _ => rfl) (fun h => by cases h)) ?_
    clear hF; intro a hF
    refine seq_yl hF (wn_none rfl) rfl rfl (yl_move hF rfl rfl) ?_
    clear hF; intro a hF
    refine seq_skip hF (wn_f hF rfl rfl rfl rfl) rfl rfl ?_
    clear hF; intro a hF
    refine seq_skip hF (wn_f hF rfl rfl rfl rfl) rfl rfl ?_
    clear hF; intro a hF
    refine seq_yl hF (wn_none rfl) rfl rfl (yl_pick (u := _) (v := undef) hF rfl rfl (fun _ => rfl) (fun h => by cases h)) ?_
    clear hF; intro a hF
    refine seq_yl hF (wn_none rfl) rfl rfl (yl_move hF rfl rfl) ?_
    clear hF; intro a hF
    refine seq_skip hF (wn_f hF rfl rfl rfl rfl) rfl rfl ?_
    clear hF; intro a hF
    refine seq_skip hF (wn_f hF rfl rfl rfl rfl) rfl rfl ?_
    clear hF; intro a hF
    refine seq_skip hF (wn_f hF rfl rfl rfl rfl) rfl rfl ?_
    clear hF; intro a hF
    refine seq_yl hF (wn_none rfl) rfl rfl (yl_pick (u := _) (v := undef) hF rfl rfl (fun _ => rfl) (fun h => by cases h)) ?_
    clear hF; intro a hF
    refine seq_yl hF (wn_none rfl) rfl rfl (yl_move hF rfl rfl) ?_
    clear hF; intro a hF
    refine seq_skip hF (wn_f hF rfl rfl rfl rfl) rfl rfl ?_
    clear hF; intro a hF
    refine seq_skip hF (wn_f hF rfl rfl rfl rfl) rfl rfl ?_
    clear hF; intro a hF
    refine seq_skip hF (wn_f hF rfl rfl rfl rfl) rfl rfl ?_
    clear hF; intro a hF
    refine seq_skip hF (wn_f hF rfl rfl rfl rfl) rfl rfl ?_
    clear hF; intro a hF
    refine seq_skip hF (wn_f hF rfl rfl rfl rfl) rfl rfl ?_
    clear hF; intro a hF
    refine seq_yl hF (wn_none rfl) rfl rfl (yl_pick (u := _) (v := undef) hF rfl rfl (fun _ => rfl) (fun h => by cases h)) ?_
    clear hF; intro a hF
    refine wpList_nil ?_
    refine then_n ?_
    refine c_cond_t hF rfl ?_
    refine c_seq ?_
    refine c_region ?_
    refine seq_yl hF (wn_none rfl) rfl rfl (yl_assign hF rfl rfl) ?_
    clear hF; intro a hF
    refine seq_yl hF (wn_none rfl) rfl rfl (yl_assign hF rfl rfl) ?_
    clear hF; intro a hF
    refine seq_yl hF (wn_none rfl) rfl rfl (yl_assign hF rfl rfl) ?_
    clear hF; intro a hF
    refine wpList_nil ?_
    refine then_n ?_
    refine wp_ret ?_
    refine then_r ?_
    refine ret_ttt hF rfl rfl rfl rfl ?_
    exact ⟨_, rfl, _, _, _, rfl, .inr ⟨fun h9 => by simp only [okW, okS, okI] at h9; omega, rfl, rfl, rfl⟩, (hS.sub [] (by decide) (by first | rfl | simp) (by simp))⟩
  · first | (replace hc4 := of_decide_eq_false hc4) | (replace hc4 := of_decide_eq_true (bnot_f hc4)) | (subst hc4) | (replace hc4 := bnot_f hc4; subst hc4) | (replace hc4 := bnot_f hc4) | skip
    try (have hc4x := hc4; simp only [okS, okI, okW, okP] at hc4x)
    refine seq_yl hF (wn_t hF rfl rfl rfl rfl) rfl rfl (yl_move hF rfl rfl) ?_
    clear hF; intro a hF
    refine seq_yl hF (wn_t hF rfl rfl rfl rfl) rfl rfl (yl_bin hF rfl rfl rfl rfl (fun _ => run_lss)) ?_
    clear hF; intro a hF
    refine seq_yl hF (wn_none rfl) rfl rfl (yl_pick (u := _) (v := undef) hF rfl rfl (fun h => by cases h) (fun _ => rfl)) ?_
    clear hF; intro a hF
    refine seq_yl hF (wn_none rfl) rfl rfl (yl_move hF rfl rfl) ?_
    clear hF; intro a hF
    refine fr_split hF (fun hc5 hF => ?_) (fun hc5 hF => ?_)
    · first | (replace hc5 := of_decide_eq_true hc5) | (replace hc5 := of_decide_eq_false (bnot_t hc5)) | (subst hc5) | (replace hc5 := bnot_t hc5; subst hc5) | (replace hc5 := bnot_t hc5) | skip
      try (have hc5x := hc5; simp only [okS, okI, okW, okP] at hc5x)
      refine seq_skip hF (wn_f hF rfl rfl rfl rfl) rfl rfl ?_
      clear hF; intro a hF
      refine seq_skip hF (wn_f hF rfl rfl rfl rfl) rfl rfl ?_
      clear hF; intro a hF
      refine seq_yl hF (wn_none rfl) rfl rfl (yl_pick (u := _) (v := undef) hF rfl rfl (fun _ => rfl) (fun h => by cases h)) ?_
      clear hF; intro a hF
      refine seq_yl hF (wn_none rfl) rfl rfl (yl_move hF rfl rfl) ?_
      clear hF; intro a hF
      refine seq_skip hF (wn_f hF rfl rfl rfl rfl) rfl rfl ?_
      clear hF; intro a hF
      refine seq_skip hF (wn_f hF rfl rfl rfl rfl) rfl rfl ?_
      clear hF; intro a hF
      refine seq_skip hF (wn_f hF rfl rfl rfl rfl) rfl rfl ?_
      clear hF; intro a hF
      refine seq_yl hF (wn_none rfl) rfl rfl (yl_pick (u := _) (v := undef) hF rfl rfl (fun _ => rfl) (fun h => by cases h)) ?_
      clear hF; intro a hF
      refine seq_yl hF (wn_none rfl) rfl rfl (yl_move hF rfl rfl) ?_
      clear hF; intro a hF
      refine seq_skip hF (wn_f hF rfl rfl rfl rfl) rfl rfl ?_
      clear hF; intro a hF
      refine seq_skip hF (wn_f hF rfl rfl rfl rfl) rfl rfl ?_
      clear hF; intro a hF
      refine seq_skip hF (wn_f hF rfl rfl rfl rfl) rfl rfl ?_
      clear hF; intro a hF
      refine seq_skip hF (wn_f hF rfl rfl rfl rfl) rfl rfl ?_
      clear hF; intro a hF
      refine seq_skip hF (wn_f hF rfl rfl rfl rfl) rfl rfl ?_
      clear hF; intro a hF
      refine seq_yl hF (wn_none rfl) rfl rfl (yl_pick (u := _) (v := undef) hF rfl rfl (fun _ => rfl) (fun h => by cases h)) ?_
      clear hF; intro a hF
      refine wpList_nil ?_
      refine then_n ?_
      refine c_cond_t hF rfl ?_
      refine c_seq ?_
      refine c_region ?_
      refine seq_yl hF (wn_none rfl) rfl rfl (yl_assign hF rfl rfl) ?_
      clear hF; intro a hF
      refine seq_yl hF (wn_none rfl) rfl rfl (yl_assign hF rfl rfl) ?_
      clear hF; intro a hF
      refine seq_yl hF (wn_none rfl) rfl rfl (yl_assign hF rfl rfl) ?_
      clear hF; intro a hF
      refine wpList_nil ?_
      refine then_n ?_
      refine wp_ret ?_
      refine then_r ?_
      refine ret_ttt hF rfl rfl rfl rfl ?_
      exact ⟨_, rfl, _, _, _, rfl, .inr ⟨fun h9 => by simp only [okW, okS, okI] at h9; omega, rfl, rfl, rfl⟩, (hS.sub [] (by decide) (by first | rfl | simp) (by simp))⟩
    · first | (replace hc5 := of_decide_eq_false hc5) | (replace hc5 := of_decide_eq_true (bnot_f hc5)) | (subst hc5) | (replace hc5 := bnot_f hc5; subst hc5) | (replace hc5 := bnot_f hc5) | skip
      try (have hc5x := hc5; simp only [okS, okI, okW, okP] at hc5x)
      refine seq_yl hF (wn_t hF rfl rfl rfl rfl) rfl rfl (yl_move hF rfl rfl) ?_
      clear hF; intro a hF
      refine seq_yl hF (wn_t hF rfl rfl rfl rfl) rfl rfl (yl_bin hF rfl rfl rfl rfl (fun _ => run_lss)) ?_
      clear hF; intro a hF
      refine seq_yl hF (wn_none rfl) rfl rfl (yl_pick (u := _) (v := undef) hF rfl rfl (fun h => by cases h) (fun _ => rfl)) ?_
      clear hF; intro a hF
      refine seq_yl hF (wn_none rfl) rfl rfl (yl_move hF rfl rfl) ?_
      clear hF; intro a hF
      refine fr_split hF (fun hc6 hF => ?_) (fun hc6 hF => ?_)
      · first | (replace hc6 := of_decide_eq_true hc6) | (replace hc6 := of_decide_eq_false (bnot_t hc6)) | (subst hc6) | (replace hc6 := bnot_t hc6; subst hc6) | (replace hc6 := bnot_t hc6) | skip
        try (have hc6x := hc6; simp only [okS, okI, okW, okP] at hc6x)
        refine seq_skip hF (wn_f hF rfl rfl rfl rfl) rfl rfl ?_
        clear hF; intro a hF
        refine seq_skip hF (wn_f hF rfl rfl rfl rfl) rfl rfl ?_
        clear hF; intro a hF
        refine seq_skip hF (wn_f hF rfl rfl rfl rfl) rfl rfl ?_
        clear hF; intro a hF
        refine seq_yl hF (wn_none rfl) rfl rfl (yl_pick (u := _) (v := undef) hF rfl rfl (fun _ => rfl) (fun h => by cases h)) ?_
        clear hF; intro a hF
        refine seq_yl hF (wn_none rfl) rfl rfl (yl_move hF rfl rfl) ?_
        clear hF; intro a hF
        refine seq_skip hF (wn_f hF rfl rfl rfl rfl) rfl rfl ?_
        clear hF; intro a hF
        refine seq_skip hF (wn_f hF rfl rfl rfl rfl) rfl rfl ?_
        clear hF; intro a hF
        refine seq_skip hF (wn_f hF rfl rfl rfl rfl) rfl rfl ?_
        clear hF; intro a hF
        refine seq_skip hF (wn_f hF rfl rfl rfl rfl) rfl rfl ?_
        clear hF; intro a hF
        refine seq_skip hF (wn_f hF rfl rfl rfl rfl) rfl rfl ?_
        clear hF; intro a hF
        refine seq_yl hF (wn_none rfl) rfl rfl (yl_pick (u := _) (v := undef) hF rfl rfl (fun _ => rfl) (fun h => by cases h)) ?_
        clear hF; intro a hF
        refine wpList_nil ?_
        refine then_n ?_
        refine c_cond_t hF rfl ?_
        refine c_seq ?_
        refine c_region ?_
        refine seq_yl hF (wn_none rfl) rfl rfl (yl_assign hF rfl rfl) ?_
        clear hF; intro a hF
        refine seq_yl hF (wn_none rfl) rfl rfl (yl_assign hF rfl rfl) ?_
        clear hF; intro a hF
        refine seq_yl hF (wn_none rfl) rfl rfl (yl_assign hF rfl rfl) ?_
        clear hF; intro a hF
        refine wpList_nil ?_
        refine then_n ?_
        refine wp_ret ?_
        refine then_r ?_
        refine ret_ttt hF rfl rfl rfl rfl ?_
        exact ⟨_, rfl, _, _, _, rfl, .inr ⟨fun h9 => by simp only [okW, okS, okI] at h9; omega, rfl, rfl, rfl⟩, (hS.sub [] (by decide) (by first | rfl | simp) (by simp))⟩
      · first | (replace hc6 := of_decide_eq_false hc6) | (replace hc6 := of_decide_eq_true (bnot_f hc6)) | (subst hc6) | (replace hc6 := bnot_f hc6; subst hc6) | (replace hc6 := bnot_f hc6) | skip
        try (have hc6x := hc6; simp only [okS, okI, okW, okP] at hc6x)
        refine seq_yl hF (wn_t hF rfl rfl rfl rfl) rfl rfl (yl_move hF rfl rfl) ?_
        clear hF; intro a hF
        refine seq_yl hF (wn_t hF rfl rfl rfl rfl) rfl rfl (yl_move hF rfl rfl) ?_
        clear hF; intro a hF
        refine seq_yl hF (wn_t hF rfl rfl rfl rfl) rfl rfl (yl_bin hF rfl rfl rfl rfl (fun _ => run_geq)) ?_
        clear hF; intro a hF
        refine seq_yl hF (wn_none rfl) rfl rfl (yl_pick (u := _) (v := undef) hF rfl rfl (fun h => by cases h) (fun _ => rfl)) ?_
        clear hF; intro a hF
        refine seq_yl hF (wn_none rfl) rfl rfl (yl_move hF rfl rfl) ?_
        clear hF; intro a hF
        refine fr_split hF (fun hc7 hF => ?_) (fun hc7 hF => ?_)
        · first | (replace hc7 := of_decide_eq_true hc7) | (replace hc7 := of_decide_eq_false (bnot_t hc7)) | (subst hc7) | (replace hc7 := bnot_t hc7; subst hc7) | (replace hc7 := bnot_t hc7) | skip
          try (have hc7x := hc7; simp only [okS, okI, okW, okP] at hc7x)
          refine seq_skip hF (wn_f hF rfl rfl rfl rfl) rfl rfl ?_
          clear hF; intro a hF
          refine seq_skip hF (wn_f hF rfl rfl rfl rfl) rfl rfl ?_
          clear hF; intro a hF
          refine seq_skip hF (wn_f hF rfl rfl rfl rfl) rfl rfl ?_
          clear hF; intro a hF
          refine seq_skip hF (wn_f hF rfl rfl rfl rfl) rfl rfl ?_
          clear hF; intro a hF
          refine seq_skip hF (wn_f hF rfl rfl rfl rfl) rfl rfl ?_
          clear hF; intro a hF
          refine seq_yl hF (wn_none rfl) rfl rfl (yl_pick (u := _) (v := undef) hF rfl rfl (fun _ => rfl) (fun h => by cases h)) ?_
          clear hF; intro a hF
          refine wpList_nil ?_
          refine then_n ?_
          refine c_cond_t hF rfl ?_
          refine c_seq ?_
          refine c_region ?_
          refine seq_yl hF (wn_none rfl) rfl rfl (yl_assign hF rfl rfl) ?_
          clear hF; intro a hF
          refine seq_yl hF (wn_none rfl) rfl rfl (yl_assign hF rfl rfl) ?_
          clear hF; intro a hF
          refine seq_yl hF (wn_none rfl) rfl rfl (yl_assign hF rfl rfl) ?_
          clear hF; intro a hF
          refine wpList_nil ?_
          refine then_n ?_
          refine wp_ret ?_
          refine then_r ?_
          refine ret_ttt hF rfl rfl rfl rfl ?_
          exact ⟨_, rfl, _, _, _, rfl, .inr ⟨fun h9 => by simp only [okW, okS, okI] at h9; omega, rfl, rfl, rfl⟩, (hS.sub [] (by decide) (by first | rfl | simp) (by simp))⟩
        · first | (replace hc7 := of_decide_eq_false hc7) | (replace hc7 := of_decide_eq_true (bnot_f hc7)) | (subst hc7) | (replace hc7 := bnot_f hc7; subst hc7) | (replace hc7 := bnot_f hc7) | skip
          try (have hc7x := hc7; simp only [okS, okI, okW, okP] at hc7x)
          refine seq_yl hF (wn_t hF rfl rfl rfl rfl) rfl rfl (yl_move hF rfl rfl) ?_
          clear hF; intro a hF
          refine seq_yl hF (wn_t hF rfl rfl rfl rfl) rfl rfl (yl_move hF rfl rfl) ?_
          clear hF; intro a hF
          refine seq_yl hF (wn_t hF rfl rfl rfl rfl) rfl rfl (yl_move hF rfl rfl) ?_
          clear hF; intro a hF
          refine seq_yl hF (wn_t hF rfl rfl rfl rfl) rfl rfl (yl_bin hF rfl rfl rfl rfl (fun _ => run_sub (by refine ⟨?_, ?_⟩ <;> omega))) ?_
          clear hF; intro a hF
          refine seq_yl hF (wn_t hF rfl rfl rfl rfl) rfl rfl (yl_bin hF rfl rfl rfl rfl (fun _ => run_gtr)) ?_
          clear hF; intro a hF
          refine seq_yl hF (wn_none rfl) rfl rfl (yl_pick (u := _) (v := undef) hF rfl rfl (fun h => by cases h) (fun _ => rfl)) ?_
          clear hF; intro a hF
          refine wpList_nil ?_
          refine then_n ?_
          refine c_cond hF rfl (fun hc8 => ?_) (fun hc8 => ?_)
          · first | (replace hc8 := of_decide_eq_true hc8) | (replace hc8 := of_decide_eq_false (bnot_t hc8)) | (subst hc8) | (replace hc8 := bnot_t hc8; subst hc8) | (replace hc8 := bnot_t hc8) | skip
            try (have hc8x := hc8; simp only [okS, okI, okW, okP] at hc8x)
            refine c_seq ?_
            refine c_region ?_
            refine seq_yl hF (wn_none rfl) rfl rfl (yl_assign hF rfl rfl) ?_
            clear hF; intro a hF
            refine seq_yl hF (wn_none rfl) rfl rfl (yl_assign hF rfl rfl) ?_
            clear hF; intro a hF
            refine seq_yl hF (wn_none rfl) rfl rfl (yl_assign hF rfl rfl) ?_
            clear hF; intro a hF
            refine wpList_nil ?_
            refine then_n ?_
            refine wp_ret ?_
            refine then_r ?_
            refine ret_ttt hF rfl rfl rfl rfl ?_
            exact ⟨_, rfl, _, _, _, rfl, .inr ⟨fun h9 => by simp only [okW, okS, okI] at h9; omega, rfl, rfl, rfl⟩, (hS.sub [] (by decide) (by first | rfl | simp) (by simp))⟩
          · first | (replace hc8 := of_decide_eq_false hc8) | (replace hc8 := of_decide_eq_true (bnot_f hc8)) | (subst hc8) | (replace hc8 := bnot_f hc8; subst hc8) | (replace hc8 := bnot_f hc8) | skip
            try (have hc8x := hc8; simp only [okS, okI, okW, okP] at hc8x)
            refine wp_skip ?_
            refine then_n ?_
            refine c_seq ?_
            refine c_region ?_
            refine seq_yl hF (wn_none rfl) rfl rfl (yl_move hF rfl rfl) ?_
            clear hF; intro a hF
            refine seq_yl hF (wn_none rfl) rfl rfl (yl_bin hF rfl rfl rfl rfl (fun _ => run_mul (by refine ⟨?_, ?_⟩ <;> omega))) ?_
            clear hF; intro a hF
            refine seq_yl hF (wn_none rfl) rfl rfl (yl_move hF rfl rfl) ?_
            clear hF; intro a hF
            refine seq_yl hF (wn_none rfl) rfl rfl (yl_move hF rfl rfl) ?_
            clear hF; intro a hF
            refine seq_yl hF (wn_none rfl) rfl rfl (yl_bin hF rfl rfl rfl rfl (fun _ => run_add (by refine ⟨?_, ?_⟩ <;> omega))) ?_
            clear hF; intro a hF
            refine seq_yl hF (wn_none rfl) rfl rfl (yl_bin hF rfl rfl rfl rfl (fun _ => run_mul (by refine ⟨?_, ?_⟩ <;> omega))) ?_
            clear hF; intro a hF
            refine seq_yl hF (wn_none rfl) rfl rfl (yl_assign hF rfl rfl) ?_
            clear hF; intro a hF
            refine seq_yl hF (wn_none rfl) rfl rfl (yl_assign hF rfl rfl) ?_
            clear hF; intro a hF
            refine seq_yl hF (wn_none rfl) rfl rfl (yl_assign hF rfl rfl) ?_
            clear hF; intro a hF
            refine wpList_nil ?_
            refine then_n ?_
            refine wp_ret ?_
            refine ret_ttt hF rfl rfl rfl rfl ?_
            exact ⟨_, rfl, _, _, _, rfl, .inl ⟨by first | assumption | (unfold okW okS okI; omega) | (unfold okS okI; omega) | (unfold okI; omega), rfl, rfl, rfl⟩, (hS.sub [] (by decide) (by first | rfl | simp) (by simp))⟩

set_option maxRecDepth 100000 in
theorem imRead_any (im : ByteArray) (s c : Int) (w0 : World) (hz : (im.size : Int) ≤ 9223372036854775807) :
    Fn Try.prog 42 #[.string im, .int .i64 s, .int .i64 c] w0 (fun v w' => ∃ (x : ByteArray) (e : Bool), v = .tuple #[.string x, .bool e] ∧ ((okS (im.size : Int) s c ∧ x = subs im (s * 8) ((s + c) * 8) ∧ e = true) ∨ (¬ okS (im.size : Int) s c ∧ x = ⟨#[]⟩ ∧ e = false)) ∧ Sat w0 w' []) := by
  refine c_enter (N := 24) (l := [_, _, _]) Try.func42 rfl rfl (fun a w hF hS => ?_)
  refine c_seq ?_
  refine c_region ?_
  refine seq_yl hF (wn_none rfl) rfl rfl (yl_assign hF rfl rfl) ?_
  clear hF; intro a hF
  refine seq_yl hF (wn_none rfl) rfl rfl (yl_assign hF rfl rfl) ?_
  clear hF; intro a hF
  refine wpList_nil ?_
  refine then_n ?_
  refine c_seq ?_
  refine c_region ?_
  refine seq_yl hF (wn_none rfl) rfl rfl (yl_move hF rfl rfl) ?_
  clear hF; intro a hF
  refine seq_yl hF (wn_none rfl) rfl rfl (yl_move hF rfl rfl) ?_
  clear hF; intro a hF
  refine seq_yl hF (wn_none rfl) rfl rfl (yl_move hF rfl rfl) ?_
  clear hF; intro a hF
  refine seq_wp (wn_none rfl) (wp_call (vs := [_, _, _]) hF rfl rfl rfl rfl cf56 (span_any im (s) (c) _ (by omega)) ?_)
  clear hF; rintro _ w ⟨a9, b10, e11, rfl, hsp12, hS1⟩ a hF
  replace hS := hS.callB hS1 rfl; clear hS1
  rcases hsp12 with ⟨hk13, rfl, rfl, rfl⟩ | ⟨hk13, rfl, rfl, rfl⟩ <;> (try (have hk13x := hk13; simp only [okS, okI, okW, okP] at hk13x))
  · skip
    refine seq_yl hF (wn_none rfl) rfl rfl (yl_move hF rfl rfl) ?_
    clear hF; intro a hF
    refine seq_yl hF (wn_none rfl) rfl rfl (yl_extract hF rfl rfl rfl) ?_
    clear hF; intro a hF
    refine seq_yl hF (wn_none rfl) rfl rfl (yl_extract hF rfl rfl rfl) ?_
    clear hF; intro a hF
    refine seq_yl hF (wn_none rfl) rfl rfl (yl_extract hF rfl rfl rfl) ?_
    clear hF; intro a hF
    refine seq_yl hF (wn_none rfl) rfl rfl (yl_assign hF rfl rfl) ?_
    clear hF; intro a hF
    refine seq_yl hF (wn_none rfl) rfl rfl (yl_assign hF rfl rfl) ?_
    clear hF; intro a hF
    refine seq_yl hF (wn_none rfl) rfl rfl (yl_assign hF rfl rfl) ?_
    clear hF; intro a hF
    refine wpList_nil ?_
    refine then_n ?_
    refine c_seq ?_
    refine c_region ?_
    refine seq_yl hF (wn_none rfl) rfl rfl (yl_move hF rfl rfl) ?_
    clear hF; intro a hF
    refine seq_yl hF (wn_none rfl) rfl rfl (yl_move hF rfl rfl) ?_
    clear hF; intro a hF
    refine seq_yl hF (wn_none rfl) rfl rfl (yl_move hF rfl rfl) ?_
    clear hF; intro a hF
    have hz14 := subs_size (s := im) (i := (((s) * 8))) (j := ((((s) + (c)) * 8))) (by omega) (by omega) (by omega)
    refine seq_yl hF (wn_none rfl) rfl rfl (yl_subsLH (s := im) (i := (((s) * 8))) (j := ((((s) + (c)) * 8))) hF rfl rfl rfl rfl Try.underlying9 (by omega) (by omega) (by omega)) ?_
    clear hF; intro a hF
    refine seq_yl hF (wn_none rfl) rfl rfl (yl_move hF rfl rfl) ?_
    clear hF; intro a hF
    refine seq_yl hF (wn_none rfl) rfl rfl (yl_assign hF rfl rfl) ?_
    clear hF; intro a hF
    refine seq_yl hF (wn_none rfl) rfl rfl (yl_assign hF rfl rfl) ?_
    clear hF; intro a hF
    refine wpList_nil ?_
    refine then_n ?_
    refine wp_ret ?_
    refine ret_tt hF rfl rfl rfl ?_
    exact ⟨_, rfl, _, _, rfl, .inl ⟨by first | assumption | (unfold okW okS okI; omega) | (unfold okS okI; omega) | (unfold okI; omega), rfl, rfl⟩, (hS.sub [] (by decide) (by first | rfl | simp) (by simp))⟩
  · skip
    refine seq_yl hF (wn_none rfl) rfl rfl (yl_move hF rfl rfl) ?_
    clear hF; intro a hF
    refine seq_yl hF (wn_none rfl) rfl rfl (yl_extract hF rfl rfl rfl) ?_
    clear hF; intro a hF
    refine seq_yl hF (wn_none rfl) rfl rfl (yl_extract hF rfl rfl rfl) ?_
    clear hF; intro a hF
    refine seq_yl hF (wn_none rfl) rfl rfl (yl_extract hF rfl rfl rfl) ?_
    clear hF; intro a hF
    refine seq_yl hF (wn_none rfl) rfl rfl (yl_assign hF rfl rfl) ?_
    clear hF; intro a hF
    refine seq_yl hF (wn_none rfl) rfl rfl (yl_assign hF rfl rfl) ?_
    clear hF; intro a hF
    refine seq_yl hF (wn_none rfl) rfl rfl (yl_assign hF rfl rfl) ?_
    clear hF; intro a hF
    refine wpList_nil ?_
    refine then_n ?_
    refine c_seq ?_
    refine c_region ?_
    refine seq_yl hF (wn_none rfl) rfl rfl (yl_move hF rfl rfl) ?_
    clear hF; intro a hF
    refine seq_yl hF (wn_none rfl) rfl rfl (yl_move hF rfl rfl) ?_
    clear hF; intro a hF
    refine seq_yl hF (wn_none rfl) rfl rfl (yl_move hF rfl rfl) ?_
    clear hF; intro a hF
    have hz15 := subs_size (s := im) (i := (0 : Int)) (j := (0 : Int)) (by omega) (by omega) (by omega)
    refine seq_yl hF (wn_none rfl) rfl rfl (yl_subsLH (s := im) (i := (0 : Int)) (j := (0 : Int)) hF rfl rfl rfl rfl Try.underlying9 (by omega) (by omega) (by omega)) ?_
    clear hF; intro a hF
    refine seq_yl hF (wn_none rfl) rfl rfl (yl_move hF rfl rfl) ?_
    clear hF; intro a hF
    refine seq_yl hF (wn_none rfl) rfl rfl (yl_assign hF rfl rfl) ?_
    clear hF; intro a hF
    refine seq_yl hF (wn_none rfl) rfl rfl (yl_assign hF rfl rfl) ?_
    clear hF; intro a hF
    refine wpList_nil ?_
    refine then_n ?_
    refine wp_ret ?_
    refine ret_tt hF rfl rfl rfl ?_
    exact ⟨_, rfl, _, _, rfl, .inr ⟨by first | assumption | (intro h9; simp only [okW, okS, okI] at h9; omega), subs_zero _, rfl⟩, (hS.sub [] (by decide) (by first | rfl | simp) (by simp))⟩

set_option maxRecDepth 100000 in
theorem in_any (s c n : Int) (w0 : World) (hn : 0 ≤ n ∧ n ≤ 9223372036854775807) :
    Fn Try.prog 48 #[.int .i64 s, .int .i64 c, .int .i64 n] w0 (fun v w' => v = .bool (decide (0 ≤ s ∧ 0 ≤ c ∧ s ≤ n ∧ c ≤ n - s)) ∧ Sat w0 w' []) := by
  refine c_enter (N := 25) (l := [_, _, _]) Try.func48 rfl rfl (fun a w hF hS => ?_)
  refine c_seq ?_
  refine c_region ?_
  refine seq_yl hF (wn_none rfl) rfl rfl (yl_assign hF rfl rfl) ?_
  clear hF; intro a hF
  refine wpList_nil ?_
  refine then_n ?_
  refine c_seq ?_
  refine c_region ?_
  refine seq_yl hF (wn_none rfl) rfl rfl (yl_move hF rfl rfl) ?_
  clear hF; intro a hF
  refine seq_yl hF (wn_none rfl) rfl rfl (yl_bin hF rfl rfl rfl rfl (fun _ => run_geq)) ?_
  clear hF; intro a hF
  refine seq_yl hF (wn_none rfl) rfl rfl (yl_move hF rfl rfl) ?_
  clear hF; intro a hF
  refine fr_split hF (fun hc16 hF => ?_) (fun hc16 hF => ?_)
  · first | (replace hc16 := of_decide_eq_true hc16) | (replace hc16 := of_decide_eq_false (bnot_t hc16)) | (subst hc16) | (replace hc16 := bnot_t hc16; subst hc16) | (replace hc16 := bnot_t hc16) | skip
    try (have hc16x := hc16; simp only [okS, okI, okW, okP] at hc16x)
    refine seq_yl hF (wn_t hF rfl rfl rfl rfl) rfl rfl (yl_move hF rfl rfl) ?_
    clear hF; intro a hF
    refine seq_yl hF (wn_t hF rfl rfl rfl rfl) rfl rfl (yl_bin hF rfl rfl rfl rfl (fun _ => run_geq)) ?_
    clear hF; intro a hF
    refine seq_yl hF (wn_none rfl) rfl rfl (yl_pick (u := _) (v := undef) hF rfl rfl (fun _ => rfl) (fun h => by cases h)) ?_
    clear hF; intro a hF
    refine seq_yl hF (wn_none rfl) rfl rfl (yl_move hF rfl rfl) ?_
    clear hF; intro a hF
    refine fr_split hF (fun hc17 hF => ?_) (fun hc17 hF => ?_)
    · first | (replace hc17 := of_decide_eq_true hc17) | (replace hc17 := of_decide_eq_false (bnot_t hc17)) | (subst hc17) | (replace hc17 := bnot_t hc17; subst hc17) | (replace hc17 := bnot_t hc17) | skip
      try (have hc17x := hc17; simp only [okS, okI, okW, okP] at hc17x)
      refine seq_yl hF (wn_t hF rfl rfl rfl rfl) rfl rfl (yl_move hF rfl rfl) ?_
      clear hF; intro a hF
      refine seq_yl hF (wn_t hF rfl rfl rfl rfl) rfl rfl (yl_move hF rfl rfl) ?_
      clear hF; intro a hF
      refine seq_yl hF (wn_t hF rfl rfl rfl rfl) rfl rfl (yl_bin hF rfl rfl rfl rfl (fun _ => run_leq)) ?_
      clear hF; intro a hF
      refine seq_yl hF (wn_none rfl) rfl rfl (yl_pick (u := _) (v := undef) hF rfl rfl (fun _ => rfl) (fun h => by cases h)) ?_
      clear hF; intro a hF
      refine seq_yl hF (wn_none rfl) rfl rfl (yl_move hF rfl rfl) ?_
      clear hF; intro a hF
      refine fr_split hF (fun hc18 hF => ?_) (fun hc18 hF => ?_)
      · first | (replace hc18 := of_decide_eq_true hc18) | (replace hc18 := of_decide_eq_false (bnot_t hc18)) | (subst hc18) | (replace hc18 := bnot_t hc18; subst hc18) | (replace hc18 := bnot_t hc18) | skip
        try (have hc18x := hc18; simp only [okS, okI, okW, okP] at hc18x)
        refine seq_yl hF (wn_t hF rfl rfl rfl rfl) rfl rfl (yl_move hF rfl rfl) ?_
        clear hF; intro a hF
        refine seq_yl hF (wn_t hF rfl rfl rfl rfl) rfl rfl (yl_move hF rfl rfl) ?_
        clear hF; intro a hF
        refine seq_yl hF (wn_t hF rfl rfl rfl rfl) rfl rfl (yl_move hF rfl rfl) ?_
        clear hF; intro a hF
        refine seq_yl hF (wn_t hF rfl rfl rfl rfl) rfl rfl (yl_bin hF rfl rfl rfl rfl (fun _ => run_sub (by refine ⟨?_, ?_⟩ <;> omega))) ?_
        clear hF; intro a hF
        refine seq_yl hF (wn_t hF rfl rfl rfl rfl) rfl rfl (yl_bin hF rfl rfl rfl rfl (fun _ => run_leq)) ?_
        clear hF; intro a hF
        refine seq_yl hF (wn_none rfl) rfl rfl (yl_pick (u := _) (v := undef) hF rfl rfl (fun _ => rfl) (fun h => by cases h)) ?_
        clear hF; intro a hF
        refine seq_yl hF (wn_none rfl) rfl rfl (yl_assign hF rfl rfl) ?_
        clear hF; intro a hF
        refine wpList_nil ?_
        refine then_n ?_
        refine wp_ret ?_
        refine ret_t hF rfl rfl ?_
        exact ⟨_, rfl, congrArg Value.bool (dec_d (by constructor <;> intro _ <;> omega)), (hS.sub [] (by decide) (by first | rfl | simp) (by simp))⟩
      · first | (replace hc18 := of_decide_eq_false hc18) | (replace hc18 := of_decide_eq_true (bnot_f hc18)) | (subst hc18) | (replace hc18 := bnot_f hc18; subst hc18) | (replace hc18 := bnot_f hc18) | skip
        try (have hc18x := hc18; simp only [okS, okI, okW, okP] at hc18x)
        refine seq_skip hF (wn_f hF rfl rfl rfl rfl) rfl rfl ?_
        clear hF; intro a hF
        refine seq_skip hF (wn_f hF rfl rfl rfl rfl) rfl rfl ?_
        clear hF; intro a hF
        refine seq_skip hF (wn_f hF rfl rfl rfl rfl) rfl rfl ?_
        clear hF; intro a hF
        refine seq_skip hF (wn_f hF rfl rfl rfl rfl) rfl rfl ?_
        clear hF; intro a hF
        refine seq_skip hF (wn_f hF rfl rfl rfl rfl) rfl rfl ?_
        clear hF; intro a hF
        refine seq_yl hF (wn_none rfl) rfl rfl (yl_pick (u := _) (v := undef) hF rfl rfl (fun h => by cases h) (fun _ => rfl)) ?_
        clear hF; intro a hF
        refine seq_yl hF (wn_none rfl) rfl rfl (yl_assign hF rfl rfl) ?_
        clear hF; intro a hF
        refine wpList_nil ?_
        refine then_n ?_
        refine wp_ret ?_
        refine ret_t hF rfl rfl ?_
        exact ⟨_, rfl, congrArg Value.bool (dec_f (by omega)), (hS.sub [] (by decide) (by first | rfl | simp) (by simp))⟩
    · first | (replace hc17 := of_decide_eq_false hc17) | (replace hc17 := of_decide_eq_true (bnot_f hc17)) | (subst hc17) | (replace hc17 := bnot_f hc17; subst hc17) | (replace hc17 := bnot_f hc17) | skip
      try (have hc17x := hc17; simp only [okS, okI, okW, okP] at hc17x)
      refine seq_skip hF (wn_f hF rfl rfl rfl rfl) rfl rfl ?_
      clear hF; intro a hF
      refine seq_skip hF (wn_f hF rfl rfl rfl rfl) rfl rfl ?_
      clear hF; intro a hF
      refine seq_skip hF (wn_f hF rfl rfl rfl rfl) rfl rfl ?_
      clear hF; intro a hF
      refine seq_yl hF (wn_none rfl) rfl rfl (yl_pick (u := _) (v := undef) hF rfl rfl (fun h => by cases h) (fun _ => rfl)) ?_
      clear hF; intro a hF
      refine seq_yl hF (wn_none rfl) rfl rfl (yl_move hF rfl rfl) ?_
      clear hF; intro a hF
      refine seq_skip hF (wn_f hF rfl rfl rfl rfl) rfl rfl ?_
      clear hF; intro a hF
      refine seq_skip hF (wn_f hF rfl rfl rfl rfl) rfl rfl ?_
      clear hF; intro a hF
      refine seq_skip hF (wn_f hF rfl rfl rfl rfl) rfl rfl ?_
      clear hF; intro a hF
      refine seq_skip hF (wn_f hF rfl rfl rfl rfl) rfl rfl ?_
      clear hF; intro a hF
      refine seq_skip hF (wn_f hF rfl rfl rfl rfl) rfl rfl ?_
      clear hF; intro a hF
      refine seq_yl hF (wn_none rfl) rfl rfl (yl_pick (u := _) (v := undef) hF rfl rfl (fun h => by cases h) (fun _ => rfl)) ?_
      clear hF; intro a hF
      refine seq_yl hF (wn_none rfl) rfl rfl (yl_assign hF rfl rfl) ?_
      clear hF; intro a hF
      refine wpList_nil ?_
      refine then_n ?_
      refine wp_ret ?_
      refine ret_t hF rfl rfl ?_
      exact ⟨_, rfl, congrArg Value.bool (dec_f (by omega)), (hS.sub [] (by decide) (by first | rfl | simp) (by simp))⟩
  · first | (replace hc16 := of_decide_eq_false hc16) | (replace hc16 := of_decide_eq_true (bnot_f hc16)) | (subst hc16) | (replace hc16 := bnot_f hc16; subst hc16) | (replace hc16 := bnot_f hc16) | skip
    try (have hc16x := hc16; simp only [okS, okI, okW, okP] at hc16x)
    refine seq_skip hF (wn_f hF rfl rfl rfl rfl) rfl rfl ?_
    clear hF; intro a hF
    refine seq_skip hF (wn_f hF rfl rfl rfl rfl) rfl rfl ?_
    clear hF; intro a hF
    refine seq_yl hF (wn_none rfl) rfl rfl (yl_pick (u := _) (v := undef) hF rfl rfl (fun h => by cases h) (fun _ => rfl)) ?_
    clear hF; intro a hF
    refine seq_yl hF (wn_none rfl) rfl rfl (yl_move hF rfl rfl) ?_
    clear hF; intro a hF
    refine seq_skip hF (wn_f hF rfl rfl rfl rfl) rfl rfl ?_
    clear hF; intro a hF
    refine seq_skip hF (wn_f hF rfl rfl rfl rfl) rfl rfl ?_
    clear hF; intro a hF
    refine seq_skip hF (wn_f hF rfl rfl rfl rfl) rfl rfl ?_
    clear hF; intro a hF
    refine seq_yl hF (wn_none rfl) rfl rfl (yl_pick (u := _) (v := undef) hF rfl rfl (fun h => by cases h) (fun _ => rfl)) ?_
    clear hF; intro a hF
    refine seq_yl hF (wn_none rfl) rfl rfl (yl_move hF rfl rfl) ?_
    clear hF; intro a hF
    refine seq_skip hF (wn_f hF rfl rfl rfl rfl) rfl rfl ?_
    clear hF; intro a hF
    refine seq_skip hF (wn_f hF rfl rfl rfl rfl) rfl rfl ?_
    clear hF; intro a hF
    refine seq_skip hF (wn_f hF rfl rfl rfl rfl) rfl rfl ?_
    clear hF; intro a hF
    refine seq_skip hF (wn_f hF rfl rfl rfl rfl) rfl rfl ?_
    clear hF; intro a hF
    refine seq_skip hF (wn_f hF rfl rfl rfl rfl) rfl rfl ?_
    clear hF; intro a hF
    refine seq_yl hF (wn_none rfl) rfl rfl (yl_pick (u := _) (v := undef) hF rfl rfl (fun h => by cases h) (fun _ => rfl)) ?_
    clear hF; intro a hF
    refine seq_yl hF (wn_none rfl) rfl rfl (yl_assign hF rfl rfl) ?_
    clear hF; intro a hF
    refine wpList_nil ?_
    refine then_n ?_
    refine wp_ret ?_
    refine ret_t hF rfl rfl ?_
    exact ⟨_, rfl, congrArg Value.bool (dec_f (by omega)), (hS.sub [] (by decide) (by first | rfl | simp) (by simp))⟩

set_option maxRecDepth 100000 in
theorem imRead2_any (im : ByteArray) (s c : Int) (w0 : World) (hz : (im.size : Int) ≤ 9223372036854775807) :
    Fn Try.prog 26 #[.string im, .int .i64 s, .int .i64 c] w0 (fun v w' => ∃ (x : ByteArray) (e : Bool), v = .tuple #[.string x, .bool e] ∧ ((okS (im.size : Int) s c ∧ x = subs im (s * 8) ((s + c) * 8) ∧ e = true) ∨ (¬ okS (im.size : Int) s c ∧ x = ⟨#[]⟩ ∧ e = false)) ∧ Sat w0 w' []) := by
  refine c_enter (N := 32) (l := [_, _, _]) Try.func26 rfl rfl (fun a w hF hS => ?_)
  refine c_seq ?_
  refine c_region ?_
  refine seq_yl hF (wn_none rfl) rfl rfl (yl_assign hF rfl rfl) ?_
  clear hF; intro a hF
  refine seq_yl hF (wn_none rfl) rfl rfl (yl_assign hF rfl rfl) ?_
  clear hF; intro a hF
  refine wpList_nil ?_
  refine then_n ?_
  refine c_seq ?_
  refine c_seq ?_
  refine c_region ?_
  refine seq_yl hF (wn_none rfl) rfl rfl (yl_move hF rfl rfl) ?_
  clear hF; intro a hF
  refine seq_wp (wn_none rfl) (wp_call (vs := [_]) hF rfl rfl rfl rfl cf44 (imValid2_any im _) ?_)
  clear hF; rintro _ w ⟨rfl, hS1⟩ a hF
  replace hS := hS.callB hS1 rfl; clear hS1
  refine seq_yl hF (wn_none rfl) rfl rfl (yl_un hF rfl rfl (fun _ => run_not)) ?_
  clear hF; intro a hF
  refine seq_yl hF (wn_none rfl) rfl rfl (yl_move hF rfl rfl) ?_
  clear hF; intro a hF
  refine fr_split hF (fun hc19 hF => ?_) (fun hc19 hF => ?_)
  · first | (replace hc19 := of_decide_eq_true hc19) | (replace hc19 := of_decide_eq_false (bnot_t hc19)) | (subst hc19) | (replace hc19 := bnot_t hc19; subst hc19) | (replace hc19 := bnot_t hc19) | skip
    try (have hc19x := hc19; simp only [okS, okI, okW, okP] at hc19x)
    refine seq_skip hF (wn_f hF rfl rfl rfl rfl) rfl rfl ?_
    clear hF; intro a hF
    refine seq_skip hF (wn_f hF rfl rfl rfl rfl) rfl rfl ?_
    clear hF; intro a hF
    refine seq_yl hF (wn_none rfl) rfl rfl (yl_pick (u := _) (v := undef) hF rfl rfl (fun _ => rfl) (fun h => by cases h)) ?_
    clear hF; intro a hF
    refine seq_yl hF (wn_none rfl) rfl rfl (yl_move hF rfl rfl) ?_
    clear hF; intro a hF
    refine seq_skip hF (wn_f hF rfl rfl rfl rfl) rfl rfl ?_
    clear hF; intro a hF
    refine seq_skip hF (wn_f hF rfl rfl rfl rfl) rfl rfl ?_
    clear hF; intro a hF
    refine seq_skip hF (wn_f hF rfl rfl rfl rfl) rfl rfl ?_
    clear hF; intro a hF
    refine seq_skip hF (wn_f hF rfl rfl rfl rfl) rfl rfl ?_
    clear hF; intro a hF
    refine seq_skip hF (wn_f hF rfl rfl rfl rfl) rfl rfl ?_
    clear hF; intro a hF
    refine seq_skip hF (wn_f hF rfl rfl rfl rfl) rfl rfl ?_
    clear hF; intro a hF
    refine seq_skip hF (wn_f hF rfl rfl rfl rfl) rfl rfl ?_
    clear hF; intro a hF
    refine seq_yl hF (wn_none rfl) rfl rfl (yl_pick (u := _) (v := undef) hF rfl rfl (fun _ => rfl) (fun h => by cases h)) ?_
    clear hF; intro a hF
    refine wpList_nil ?_
    refine then_n ?_
    refine c_cond_t hF rfl ?_
    refine c_seq ?_
    refine c_region ?_
    refine seq_yl hF (wn_none rfl) rfl rfl (yl_assign hF rfl rfl) ?_
    clear hF; intro a hF
    refine seq_yl hF (wn_none rfl) rfl rfl (yl_assign hF rfl rfl) ?_
    clear hF; intro a hF
    refine wpList_nil ?_
    refine then_n ?_
    refine wp_ret ?_
    refine then_r ?_
    refine ret_tt hF rfl rfl rfl ?_
    exact ⟨_, rfl, _, _, rfl, .inr ⟨by first | assumption | (intro h9; simp only [okW, okS, okI] at h9; omega), rfl, rfl⟩, (hS.sub [] (by decide) (by first | rfl | simp) (by simp))⟩
  · first | (replace hc19 := of_decide_eq_false hc19) | (replace hc19 := of_decide_eq_true (bnot_f hc19)) | (subst hc19) | (replace hc19 := bnot_f hc19; subst hc19) | (replace hc19 := bnot_f hc19) | skip
    try (have hc19x := hc19; simp only [okS, okI, okW, okP] at hc19x)
    refine seq_yl hF (wn_t hF rfl rfl rfl rfl) rfl rfl (yl_move hF rfl rfl) ?_
    clear hF; intro a hF
    refine seq_yl hF (wn_t hF rfl rfl rfl rfl) rfl rfl (yl_bin hF rfl rfl rfl rfl (fun _ => run_lss)) ?_
    clear hF; intro a hF
    refine seq_yl hF (wn_none rfl) rfl rfl (yl_pick (u := _) (v := undef) hF rfl rfl (fun h => by cases h) (fun _ => rfl)) ?_
    clear hF; intro a hF
    refine seq_yl hF (wn_none rfl) rfl rfl (yl_move hF rfl rfl) ?_
    clear hF; intro a hF
    refine fr_split hF (fun hc20 hF => ?_) (fun hc20 hF => ?_)
    · first | (replace hc20 := of_decide_eq_true hc20) | (replace hc20 := of_decide_eq_false (bnot_t hc20)) | (subst hc20) | (replace hc20 := bnot_t hc20; subst hc20) | (replace hc20 := bnot_t hc20) | skip
      try (have hc20x := hc20; simp only [okS, okI, okW, okP] at hc20x)
      refine seq_skip hF (wn_f hF rfl rfl rfl rfl) rfl rfl ?_
      clear hF; intro a hF
      refine seq_skip hF (wn_f hF rfl rfl rfl rfl) rfl rfl ?_
      clear hF; intro a hF
      refine seq_skip hF (wn_f hF rfl rfl rfl rfl) rfl rfl ?_
      clear hF; intro a hF
      refine seq_skip hF (wn_f hF rfl rfl rfl rfl) rfl rfl ?_
      clear hF; intro a hF
      refine seq_skip hF (wn_f hF rfl rfl rfl rfl) rfl rfl ?_
      clear hF; intro a hF
      refine seq_skip hF (wn_f hF rfl rfl rfl rfl) rfl rfl ?_
      clear hF; intro a hF
      refine seq_skip hF (wn_f hF rfl rfl rfl rfl) rfl rfl ?_
      clear hF; intro a hF
      refine seq_yl hF (wn_none rfl) rfl rfl (yl_pick (u := _) (v := undef) hF rfl rfl (fun _ => rfl) (fun h => by cases h)) ?_
      clear hF; intro a hF
      refine wpList_nil ?_
      refine then_n ?_
      refine c_cond_t hF rfl ?_
      refine c_seq ?_
      refine c_region ?_
      refine seq_yl hF (wn_none rfl) rfl rfl (yl_assign hF rfl rfl) ?_
      clear hF; intro a hF
      refine seq_yl hF (wn_none rfl) rfl rfl (yl_assign hF rfl rfl) ?_
      clear hF; intro a hF
      refine wpList_nil ?_
      refine then_n ?_
      refine wp_ret ?_
      refine then_r ?_
      refine ret_tt hF rfl rfl rfl ?_
      exact ⟨_, rfl, _, _, rfl, .inr ⟨by first | assumption | (intro h9; simp only [okW, okS, okI] at h9; omega), rfl, rfl⟩, (hS.sub [] (by decide) (by first | rfl | simp) (by simp))⟩
    · first | (replace hc20 := of_decide_eq_false hc20) | (replace hc20 := of_decide_eq_true (bnot_f hc20)) | (subst hc20) | (replace hc20 := bnot_f hc20; subst hc20) | (replace hc20 := bnot_f hc20) | skip
      try (have hc20x := hc20; simp only [okS, okI, okW, okP] at hc20x)
      refine seq_yl hF (wn_t hF rfl rfl rfl rfl) rfl rfl (yl_move hF rfl rfl) ?_
      clear hF; intro a hF
      refine seq_yl hF (wn_t hF rfl rfl rfl rfl) rfl rfl (yl_move hF rfl rfl) ?_
      clear hF; intro a hF
      refine seq_yl hF (wn_t hF rfl rfl rfl rfl) rfl rfl (yl_move hF rfl rfl) ?_
      clear hF; intro a hF
      refine seq_yl hF (wn_t hF rfl rfl rfl rfl) rfl rfl (yl_len hF rfl rfl (fun _ => run_lenStr Try.underlying9)) ?_
      clear hF; intro a hF
      refine seq_yl hF (wn_t hF rfl rfl rfl rfl) rfl rfl (yl_bin hF rfl rfl rfl rfl (fun _ => run_quoN (by omega) (by omega) (by omega))) ?_
      clear hF; intro a hF
      refine seq_wp (wn_t hF rfl rfl rfl rfl) (wp_call (vs := [_, _, _]) hF rfl rfl rfl rfl cf48 (in_any (s) (c) (((((im).size : Nat) : Int) / (8 : Int))) _ (by omega)) ?_)
      clear hF; rintro _ w ⟨rfl, hS1⟩ a hF
      replace hS := hS.callB hS1 rfl; clear hS1
      refine seq_yl hF (wn_t hF rfl rfl rfl rfl) rfl rfl (yl_un hF rfl rfl (fun _ => run_not)) ?_
      clear hF; intro a hF
      refine seq_yl hF (wn_none rfl) rfl rfl (yl_pick (u := _) (v := undef) hF rfl rfl (fun h => by cases h) (fun _ => rfl)) ?_
      clear hF; intro a hF
      refine wpList_nil ?_
      refine then_n ?_
      refine c_cond hF rfl (fun hc21 => ?_) (fun hc21 => ?_)
      · first | (replace hc21 := of_decide_eq_true hc21) | (replace hc21 := of_decide_eq_false (bnot_t hc21)) | (subst hc21) | (replace hc21 := bnot_t hc21; subst hc21) | (replace hc21 := bnot_t hc21) | skip
        try (have hc21x := hc21; simp only [okS, okI, okW, okP] at hc21x)
        refine c_seq ?_
        refine c_region ?_
        refine seq_yl hF (wn_none rfl) rfl rfl (yl_assign hF rfl rfl) ?_
        clear hF; intro a hF
        refine seq_yl hF (wn_none rfl) rfl rfl (yl_assign hF rfl rfl) ?_
        clear hF; intro a hF
        refine wpList_nil ?_
        refine then_n ?_
        refine wp_ret ?_
        refine then_r ?_
        refine ret_tt hF rfl rfl rfl ?_
        exact ⟨_, rfl, _, _, rfl, .inr ⟨by first | assumption | (intro h9; simp only [okW, okS, okI] at h9; omega), rfl, rfl⟩, (hS.sub [] (by decide) (by first | rfl | simp) (by simp))⟩
      · first | (replace hc21 := of_decide_eq_false hc21) | (replace hc21 := of_decide_eq_true (bnot_f hc21)) | (subst hc21) | (replace hc21 := bnot_f hc21; subst hc21) | (replace hc21 := bnot_f hc21) | skip
        try (have hc21x := hc21; simp only [okS, okI, okW, okP] at hc21x)
        refine wp_skip ?_
        refine then_n ?_
        refine c_seq ?_
        refine c_region ?_
        refine seq_yl hF (wn_none rfl) rfl rfl (yl_move hF rfl rfl) ?_
        clear hF; intro a hF
        refine seq_yl hF (wn_none rfl) rfl rfl (yl_move hF rfl rfl) ?_
        clear hF; intro a hF
        refine seq_yl hF (wn_none rfl) rfl rfl (yl_bin hF rfl rfl rfl rfl (fun _ => run_mul (by refine ⟨?_, ?_⟩ <;> omega))) ?_
        clear hF; intro a hF
        refine seq_yl hF (wn_none rfl) rfl rfl (yl_move hF rfl rfl) ?_
        clear hF; intro a hF
        refine seq_yl hF (wn_none rfl) rfl rfl (yl_move hF rfl rfl) ?_
        clear hF; intro a hF
        refine seq_yl hF (wn_none rfl) rfl rfl (yl_bin hF rfl rfl rfl rfl (fun _ => run_add (by refine ⟨?_, ?_⟩ <;> omega))) ?_
        clear hF; intro a hF
        refine seq_yl hF (wn_none rfl) rfl rfl (yl_bin hF rfl rfl rfl rfl (fun _ => run_mul (by refine ⟨?_, ?_⟩ <;> omega))) ?_
        clear hF; intro a hF
        have hz22 := subs_size (s := im) (i := (((s) * (8 : Int)))) (j := (((((s) + (c))) * (8 : Int)))) (by omega) (by omega) (by omega)
        refine seq_yl hF (wn_none rfl) rfl rfl (yl_subsLH (s := im) (i := (((s) * (8 : Int)))) (j := (((((s) + (c))) * (8 : Int)))) hF rfl rfl rfl rfl Try.underlying9 (by omega) (by omega) (by omega)) ?_
        clear hF; intro a hF
        refine seq_yl hF (wn_none rfl) rfl rfl (yl_assign hF rfl rfl) ?_
        clear hF; intro a hF
        refine seq_yl hF (wn_none rfl) rfl rfl (yl_assign hF rfl rfl) ?_
        clear hF; intro a hF
        refine wpList_nil ?_
        refine then_n ?_
        refine wp_ret ?_
        refine ret_tt hF rfl rfl rfl ?_
        exact ⟨_, rfl, _, _, rfl, .inl ⟨by first | assumption | (unfold okW okS okI; omega) | (unfold okS okI; omega) | (unfold okI; omega), rfl, rfl⟩, (hS.sub [] (by decide) (by first | rfl | simp) (by simp))⟩

set_option maxRecDepth 100000 in
theorem whole_any (d : ByteArray) (w0 : World) :
    Fn Try.prog 47 #[.string d] w0 (fun v w' => v = .bool (decide (0 < (d.size : Int) ∧ (d.size : Int) % 8 = 0)) ∧ Sat w0 w' []) := by
  refine c_enter (N := 12) (l := [_]) Try.func47 rfl rfl (fun a w hF hS => ?_)
  refine c_seq ?_
  refine c_region ?_
  refine seq_yl hF (wn_none rfl) rfl rfl (yl_assign hF rfl rfl) ?_
  clear hF; intro a hF
  refine wpList_nil ?_
  refine then_n ?_
  refine c_seq ?_
  refine c_region ?_
  refine seq_yl hF (wn_none rfl) rfl rfl (yl_move hF rfl rfl) ?_
  clear hF; intro a hF
  refine seq_yl hF (wn_none rfl) rfl rfl (yl_len hF rfl rfl (fun _ => run_lenStr Try.underlying9)) ?_
  clear hF; intro a hF
  refine seq_yl hF (wn_none rfl) rfl rfl (yl_bin hF rfl rfl rfl rfl (fun _ => run_gtr)) ?_
  clear hF; intro a hF
  refine seq_yl hF (wn_none rfl) rfl rfl (yl_move hF rfl rfl) ?_
  clear hF; intro a hF
  refine fr_split hF (fun hc23 hF => ?_) (fun hc23 hF => ?_)
  · first | (replace hc23 := of_decide_eq_true hc23) | (replace hc23 := of_decide_eq_false (bnot_t hc23)) | (subst hc23) | (replace hc23 := bnot_t hc23; subst hc23) | (replace hc23 := bnot_t hc23) | skip
    try (have hc23x := hc23; simp only [okS, okI, okW, okP] at hc23x)
    refine seq_yl hF (wn_t hF rfl rfl rfl rfl) rfl rfl (yl_move hF rfl rfl) ?_
    clear hF; intro a hF
    refine seq_yl hF (wn_t hF rfl rfl rfl rfl) rfl rfl (yl_len hF rfl rfl (fun _ => run_lenStr Try.underlying9)) ?_
    clear hF; intro a hF
    refine seq_yl hF (wn_t hF rfl rfl rfl rfl) rfl rfl (yl_bin hF rfl rfl rfl rfl (fun _ => run_remN (by omega) (by omega))) ?_
    clear hF; intro a hF
    refine seq_yl hF (wn_t hF rfl rfl rfl rfl) rfl rfl (yl_bin hF rfl rfl rfl rfl (fun _ => run_eql)) ?_
    clear hF; intro a hF
    refine seq_yl hF (wn_none rfl) rfl rfl (yl_pick (u := _) (v := undef) hF rfl rfl (fun _ => rfl) (fun h => by cases h)) ?_
    clear hF; intro a hF
    refine seq_yl hF (wn_none rfl) rfl rfl (yl_assign hF rfl rfl) ?_
    clear hF; intro a hF
    refine wpList_nil ?_
    refine then_n ?_
    refine wp_ret ?_
    refine ret_t hF rfl rfl ?_
    exact ⟨_, rfl, congrArg Value.bool (dec_d (by constructor <;> intro _ <;> omega)), (hS.sub [] (by decide) (by first | rfl | simp) (by simp))⟩
  · first | (replace hc23 := of_decide_eq_false hc23) | (replace hc23 := of_decide_eq_true (bnot_f hc23)) | (subst hc23) | (replace hc23 := bnot_f hc23; subst hc23) | (replace hc23 := bnot_f hc23) | skip
    try (have hc23x := hc23; simp only [okS, okI, okW, okP] at hc23x)
    refine seq_skip hF (wn_f hF rfl rfl rfl rfl) rfl rfl ?_
    clear hF; intro a hF
    refine seq_skip hF (wn_f hF rfl rfl rfl rfl) rfl rfl ?_
    clear hF; intro a hF
    refine seq_skip hF (wn_f hF rfl rfl rfl rfl) rfl rfl ?_
    clear hF; intro a hF
    refine seq_skip hF (wn_f hF rfl rfl rfl rfl) rfl rfl ?_
    clear hF; intro a hF
    refine seq_yl hF (wn_none rfl) rfl rfl (yl_pick (u := _) (v := undef) hF rfl rfl (fun h => by cases h) (fun _ => rfl)) ?_
    clear hF; intro a hF
    refine seq_yl hF (wn_none rfl) rfl rfl (yl_assign hF rfl rfl) ?_
    clear hF; intro a hF
    refine wpList_nil ?_
    refine then_n ?_
    refine wp_ret ?_
    refine ret_t hF rfl rfl ?_
    exact ⟨_, rfl, congrArg Value.bool (dec_f (by omega)), (hS.sub [] (by decide) (by first | rfl | simp) (by simp))⟩

set_option maxRecDepth 100000 in
theorem imWrite2_any (im : ByteArray) (s : Int) (d : ByteArray) (w0 : World) (hz : (im.size : Int) ≤ 9223372036854775807) (hd : (d.size : Int) ≤ 9223372036854775807) :
    Fn Try.prog 23 #[.string im, .int .i64 s, .string d] w0 (fun v w' => ∃ (x : ByteArray) (e : Bool), v = .tuple #[.string x, .bool e] ∧ ((okW (im.size : Int) s (d.size : Int) ∧ x = wim im s d ∧ e = true) ∨ (¬ okW (im.size : Int) s (d.size : Int) ∧ x = ⟨#[]⟩ ∧ e = false)) ∧ Sat w0 w' []) := by
  refine c_enter (N := 42) (l := [_, _, _]) Try.func23 rfl rfl (fun a w hF hS => ?_)
  refine c_seq ?_
  refine c_region ?_
  refine seq_yl hF (wn_none rfl) rfl rfl (yl_assign hF rfl rfl) ?_
  clear hF; intro a hF
  refine seq_yl hF (wn_none rfl) rfl rfl (yl_assign hF rfl rfl) ?_
  clear hF; intro a hF
  refine wpList_nil ?_
  refine then_n ?_
  refine c_seq ?_
  refine c_seq ?_
  refine c_region ?_
  refine seq_yl hF (wn_none rfl) rfl rfl (yl_move hF rfl rfl) ?_
  clear hF; intro a hF
  refine seq_wp (wn_none rfl) (wp_call (vs := [_]) hF rfl rfl rfl rfl cf44 (imValid2_any im _) ?_)
  clear hF; rintro _ w ⟨rfl, hS1⟩ a hF
  replace hS := hS.callB hS1 rfl; clear hS1
  refine seq_yl hF (wn_none rfl) rfl rfl (yl_un hF rfl rfl (fun _ => run_not)) ?_
  clear hF; intro a hF
  refine seq_yl hF (wn_none rfl) rfl rfl (yl_move hF rfl rfl) ?_
  clear hF; intro a hF
  refine fr_split hF (fun hc24 hF => ?_) (fun hc24 hF => ?_)
  · first | (replace hc24 := of_decide_eq_true hc24) | (replace hc24 := of_decide_eq_false (bnot_t hc24)) | (subst hc24) | (replace hc24 := bnot_t hc24; subst hc24) | (replace hc24 := bnot_t hc24) | skip
    try (have hc24x := hc24; simp only [okS, okI, okW, okP] at hc24x)
    refine seq_skip hF (wn_f hF rfl rfl rfl rfl) rfl rfl ?_
    clear hF; intro a hF
    refine seq_skip hF (wn_f hF rfl rfl rfl rfl) rfl rfl ?_
    clear hF; intro a hF
    refine seq_skip hF (wn_f hF rfl rfl rfl rfl) rfl rfl ?_
    clear hF; intro a hF
    refine seq_yl hF (wn_none rfl) rfl rfl (yl_pick (u := _) (v := undef) hF rfl rfl (fun _ => rfl) (fun h => by cases h)) ?_
    clear hF; intro a hF
    refine seq_yl hF (wn_none rfl) rfl rfl (yl_move hF rfl rfl) ?_
    clear hF; intro a hF
    refine seq_skip hF (wn_f hF rfl rfl rfl rfl) rfl rfl ?_
    clear hF; intro a hF
    refine seq_skip hF (wn_f hF rfl rfl rfl rfl) rfl rfl ?_
    clear hF; intro a hF
    refine seq_skip hF (wn_f hF rfl rfl rfl rfl) rfl rfl ?_
    clear hF; intro a hF
    refine seq_skip hF (wn_f hF rfl rfl rfl rfl) rfl rfl ?_
    clear hF; intro a hF
    refine seq_skip hF (wn_f hF rfl rfl rfl rfl) rfl rfl ?_
    clear hF; intro a hF
    refine seq_skip hF (wn_f hF rfl rfl rfl rfl) rfl rfl ?_
    clear hF; intro a hF
    refine seq_skip hF (wn_f hF rfl rfl rfl rfl) rfl rfl ?_
    clear hF; intro a hF
    refine seq_skip hF (wn_f hF rfl rfl rfl rfl) rfl rfl ?_
    clear hF; intro a hF
    refine seq_skip hF (wn_f hF rfl rfl rfl rfl) rfl rfl ?_
    clear hF; intro a hF
    refine seq_yl hF (wn_none rfl) rfl rfl (yl_pick (u := _) (v := undef) hF rfl rfl (fun _ => rfl) (fun h => by cases h)) ?_
    clear hF; intro a hF
    refine wpList_nil ?_
    refine then_n ?_
    refine c_cond_t hF rfl ?_
    refine c_seq ?_
    refine c_region ?_
    refine seq_yl hF (wn_none rfl) rfl rfl (yl_assign hF rfl rfl) ?_
    clear hF; intro a hF
    refine seq_yl hF (wn_none rfl) rfl rfl (yl_assign hF rfl rfl) ?_
    clear hF; intro a hF
    refine wpList_nil ?_
    refine then_n ?_
    refine wp_ret ?_
    refine then_r ?_
    refine ret_tt hF rfl rfl rfl ?_
    exact ⟨_, rfl, _, _, rfl, .inr ⟨fun h9 => by simp only [okW, okS, okI] at h9; omega, rfl, rfl⟩, (hS.sub [] (by decide) (by first | rfl | simp) (by simp))⟩
  · first | (replace hc24 := of_decide_eq_false hc24) | (replace hc24 := of_decide_eq_true (bnot_f hc24)) | (subst hc24) | (replace hc24 := bnot_f hc24; subst hc24) | (replace hc24 := bnot_f hc24) | skip
    try (have hc24x := hc24; simp only [okS, okI, okW, okP] at hc24x)
    refine seq_yl hF (wn_t hF rfl rfl rfl rfl) rfl rfl (yl_move hF rfl rfl) ?_
    clear hF; intro a hF
    refine seq_wp (wn_t hF rfl rfl rfl rfl) (wp_call (vs := [_]) hF rfl rfl rfl rfl cf47 (whole_any d _) ?_)
    clear hF; rintro _ w ⟨rfl, hS1⟩ a hF
    replace hS := hS.callB hS1 rfl; clear hS1
    refine seq_yl hF (wn_t hF rfl rfl rfl rfl) rfl rfl (yl_un hF rfl rfl (fun _ => run_not)) ?_
    clear hF; intro a hF
    refine seq_yl hF (wn_none rfl) rfl rfl (yl_pick (u := _) (v := undef) hF rfl rfl (fun h => by cases h) (fun _ => rfl)) ?_
    clear hF; intro a hF
    refine seq_yl hF (wn_none rfl) rfl rfl (yl_move hF rfl rfl) ?_
    clear hF; intro a hF
    refine fr_split hF (fun hc25 hF => ?_) (fun hc25 hF => ?_)
    · first | (replace hc25 := of_decide_eq_true hc25) | (replace hc25 := of_decide_eq_false (bnot_t hc25)) | (subst hc25) | (replace hc25 := bnot_t hc25; subst hc25) | (replace hc25 := bnot_t hc25) | skip
      try (have hc25x := hc25; simp only [okS, okI, okW, okP] at hc25x)
      refine seq_skip hF (wn_f hF rfl rfl rfl rfl) rfl rfl ?_
      clear hF; intro a hF
      refine seq_skip hF (wn_f hF rfl rfl rfl rfl) rfl rfl ?_
      clear hF; intro a hF
      refine seq_skip hF (wn_f hF rfl rfl rfl rfl) rfl rfl ?_
      clear hF; intro a hF
      refine seq_skip hF (wn_f hF rfl rfl rfl rfl) rfl rfl ?_
      clear hF; intro a hF
      refine seq_skip hF (wn_f hF rfl rfl rfl rfl) rfl rfl ?_
      clear hF; intro a hF
      refine seq_skip hF (wn_f hF rfl rfl rfl rfl) rfl rfl ?_
      clear hF; intro a hF
      refine seq_skip hF (wn_f hF rfl rfl rfl rfl) rfl rfl ?_
      clear hF; intro a hF
      refine seq_skip hF (wn_f hF rfl rfl rfl rfl) rfl rfl ?_
      clear hF; intro a hF
      refine seq_skip hF (wn_f hF rfl rfl rfl rfl) rfl rfl ?_
      clear hF; intro a hF
      refine seq_yl hF (wn_none rfl) rfl rfl (yl_pick (u := _) (v := undef) hF rfl rfl (fun _ => rfl) (fun h => by cases h)) ?_
      clear hF; intro a hF
      refine wpList_nil ?_
      refine then_n ?_
      refine c_cond_t hF rfl ?_
      refine c_seq ?_
      refine c_region ?_
      refine seq_yl hF (wn_none rfl) rfl rfl (yl_assign hF rfl rfl) ?_
      clear hF; intro a hF
      refine seq_yl hF (wn_none rfl) rfl rfl (yl_assign hF rfl rfl) ?_
      clear hF; intro a hF
      refine wpList_nil ?_
      refine then_n ?_
      refine wp_ret ?_
      refine then_r ?_
      refine ret_tt hF rfl rfl rfl ?_
      exact ⟨_, rfl, _, _, rfl, .inr ⟨fun h9 => by simp only [okW, okS, okI] at h9; omega, rfl, rfl⟩, (hS.sub [] (by decide) (by first | rfl | simp) (by simp))⟩
    · first | (replace hc25 := of_decide_eq_false hc25) | (replace hc25 := of_decide_eq_true (bnot_f hc25)) | (subst hc25) | (replace hc25 := bnot_f hc25; subst hc25) | (replace hc25 := bnot_f hc25) | skip
      try (have hc25x := hc25; simp only [okS, okI, okW, okP] at hc25x)
      refine seq_yl hF (wn_t hF rfl rfl rfl rfl) rfl rfl (yl_move hF rfl rfl) ?_
      clear hF; intro a hF
      refine seq_yl hF (wn_t hF rfl rfl rfl rfl) rfl rfl (yl_move hF rfl rfl) ?_
      clear hF; intro a hF
      refine seq_yl hF (wn_t hF rfl rfl rfl rfl) rfl rfl (yl_len hF rfl rfl (fun _ => run_lenStr Try.underlying9)) ?_
      clear hF; intro a hF
      refine seq_yl hF (wn_t hF rfl rfl rfl rfl) rfl rfl (yl_bin hF rfl rfl rfl rfl (fun _ => run_quoN (by omega) (by omega) (by omega))) ?_
      clear hF; intro a hF
      refine seq_yl hF (wn_t hF rfl rfl rfl rfl) rfl rfl (yl_move hF rfl rfl) ?_
      clear hF; intro a hF
      refine seq_yl hF (wn_t hF rfl rfl rfl rfl) rfl rfl (yl_len hF rfl rfl (fun _ => run_lenStr Try.underlying9)) ?_
      clear hF; intro a hF
      refine seq_yl hF (wn_t hF rfl rfl rfl rfl) rfl rfl (yl_bin hF rfl rfl rfl rfl (fun _ => run_quoN (by omega) (by omega) (by omega))) ?_
      clear hF; intro a hF
      refine seq_wp (wn_t hF rfl rfl rfl rfl) (wp_call (vs := [_, _, _]) hF rfl rfl rfl rfl cf48 (in_any (s) (((((d).size : Nat) : Int) / (8 : Int))) (((((im).size : Nat) : Int) / (8 : Int))) _ (by omega)) ?_)
      clear hF; rintro _ w ⟨rfl, hS1⟩ a hF
      replace hS := hS.callB hS1 rfl; clear hS1
      refine seq_yl hF (wn_t hF rfl rfl rfl rfl) rfl rfl (yl_un hF rfl rfl (fun _ => run_not)) ?_
      clear hF; intro a hF
      refine seq_yl hF (wn_none rfl) rfl rfl (yl_pick (u := _) (v := undef) hF rfl rfl (fun h => by cases h) (fun _ => rfl)) ?_
      clear hF; intro a hF
      refine wpList_nil ?_
      refine then_n ?_
      refine c_cond hF rfl (fun hc26 => ?_) (fun hc26 => ?_)
      · first | (replace hc26 := of_decide_eq_true hc26) | (replace hc26 := of_decide_eq_false (bnot_t hc26)) | (subst hc26) | (replace hc26 := bnot_t hc26; subst hc26) | (replace hc26 := bnot_t hc26) | skip
        try (have hc26x := hc26; simp only [okS, okI, okW, okP] at hc26x)
        refine c_seq ?_
        refine c_region ?_
        refine seq_yl hF (wn_none rfl) rfl rfl (yl_assign hF rfl rfl) ?_
        clear hF; intro a hF
        refine seq_yl hF (wn_none rfl) rfl rfl (yl_assign hF rfl rfl) ?_
        clear hF; intro a hF
        refine wpList_nil ?_
        refine then_n ?_
        refine wp_ret ?_
        refine then_r ?_
        refine ret_tt hF rfl rfl rfl ?_
        exact ⟨_, rfl, _, _, rfl, .inr ⟨fun h9 => by simp only [okW, okS, okI] at h9; omega, rfl, rfl⟩, (hS.sub [] (by decide) (by first | rfl | simp) (by simp))⟩
      · first | (replace hc26 := of_decide_eq_false hc26) | (replace hc26 := of_decide_eq_true (bnot_f hc26)) | (subst hc26) | (replace hc26 := bnot_f hc26; subst hc26) | (replace hc26 := bnot_f hc26) | skip
        try (have hc26x := hc26; simp only [okS, okI, okW, okP] at hc26x)
        refine wp_skip ?_
        refine then_n ?_
        refine c_seq ?_
        refine c_region ?_
        refine seq_yl hF (wn_none rfl) rfl rfl (yl_move hF rfl rfl) ?_
        clear hF; intro a hF
        refine seq_yl hF (wn_none rfl) rfl rfl (yl_bin hF rfl rfl rfl rfl (fun _ => run_mul (by refine ⟨?_, ?_⟩ <;> omega))) ?_
        clear hF; intro a hF
        refine seq_yl hF (wn_none rfl) rfl rfl (yl_assign hF rfl rfl) ?_
        clear hF; intro a hF
        refine wpList_nil ?_
        refine then_n ?_
        refine c_seq ?_
        refine ha_startS hS [] 14 (by kernel_rfl) ?_; clear hS; intro w hS
        have hSS := hS.sub [] (by decide) rfl (by simp)
        refine ha_y 0 hF rfl rfl rfl (wn_none rfl) (.inr hSS) (yl_move hF rfl rfl) ?_
        clear hF; intro a hF
        refine ha_y 1 hF rfl rfl rfl (wn_none rfl) (.inr hSS) (yl_move hF rfl rfl) ?_
        clear hF; intro a hF
        have hz27 := subs_size (s := im) (i := 0) (j := (((s) * (8 : Int)))) (by omega) (by omega) (by omega)
        refine ha_y 2 hF rfl rfl rfl (wn_none rfl) (.inr hSS) (yl_subsH (s := im) (j := (((s) * (8 : Int)))) hF rfl rfl rfl Try.underlying9 (by omega) (by omega)) ?_
        clear hF; intro a hF
        refine ha_y 3 hF rfl rfl rfl (wn_none rfl) (.inr hSS) (yl_move hF rfl rfl) ?_
        clear hF; intro a hF
        have hz28 := cat_size (subs im 0 (((s) * (8 : Int)))) d
        refine ha_y 4 hF rfl rfl rfl (wn_none rfl) (.inr hSS) (yl_bin hF rfl rfl rfl rfl (fun _ => run_catS (x := (subs im 0 (((s) * (8 : Int))))) (y := d) (by omega))) ?_
        clear hF; intro a hF
        refine ha_y 5 hF rfl rfl rfl (wn_none rfl) (.inr hSS) (yl_move hF rfl rfl) ?_
        clear hF; intro a hF
        refine ha_y 6 hF rfl rfl rfl (wn_none rfl) (.inr hSS) (yl_move hF rfl rfl) ?_
        clear hF; intro a hF
        refine ha_y 7 hF rfl rfl rfl (wn_none rfl) (.inr hSS) (yl_move hF rfl rfl) ?_
        clear hF; intro a hF
        refine ha_y 8 hF rfl rfl rfl (wn_none rfl) (.inr hSS) (yl_len hF rfl rfl (fun _ => run_lenStr Try.underlying9)) ?_
        clear hF; intro a hF
        refine ha_y 9 hF rfl rfl rfl (wn_none rfl) (.inr hSS) (yl_bin hF rfl rfl rfl rfl (fun _ => run_add (by refine ⟨?_, ?_⟩ <;> omega))) ?_
        clear hF; intro a hF
        have hz29 := subs_size (s := im) (i := (((((s) * (8 : Int))) + (((d).size : Nat) : Int)))) (j := ((im).size : Int)) (by omega) (by omega) (by omega)
        refine ha_y 10 hF rfl rfl rfl (wn_none rfl) (.inr hSS) (yl_subsL (s := im) (i := (((((s) * (8 : Int))) + (((d).size : Nat) : Int)))) hF rfl rfl rfl Try.underlying9 (by omega) (by omega)) ?_
        clear hF; intro a hF
        have hz30 := cat_size ((subs im 0 (((s) * (8 : Int)))) ++ d) (subs im (((((s) * (8 : Int))) + (((d).size : Nat) : Int))) ((im).size : Int))
        refine ha_y 11 hF rfl rfl rfl (wn_none rfl) (.inr hSS) (yl_bin hF rfl rfl rfl rfl (fun _ => run_catS (x := ((subs im 0 (((s) * (8 : Int)))) ++ d)) (y := (subs im (((((s) * (8 : Int))) + (((d).size : Nat) : Int))) ((im).size : Int))) (by omega))) ?_
        clear hF; intro a hF
        refine ha_y 12 hF rfl rfl rfl (wn_none rfl) (.inr hSS) (yl_assign hF rfl rfl) ?_
        clear hF; intro a hF
        refine ha_y 13 hF rfl rfl rfl (wn_none rfl) (.inr hSS) (yl_assign hF rfl rfl) ?_
        clear hF; intro a hF
        refine ha_done (by kernel_rfl) ?_ _
        refine then_n ?_
        refine wp_ret ?_
        refine ret_tt hF rfl rfl rfl ?_
        exact ⟨_, rfl, _, _, rfl, .inl ⟨by first | assumption | (unfold okW okS okI; omega) | (unfold okS okI; omega) | (unfold okI; omega), by unfold wim; rfl, rfl⟩, (hS.sub [] (by decide) (by first | rfl | simp) (by simp))⟩

set_option maxRecDepth 100000 in
theorem secs_any (st : ByteArray) (lv : Value) (rm : Int) (w0 : World) (hz : (st.size : Int) ≤ 9223372036854775807) :
    Fn Try.prog 27 #[.agg #[.string st, lv, .int .i64 rm]] w0 (fun v w' => v = .int .i64 ((st.size : Int) / 8) ∧ Sat w0 w' []) := by
  refine c_enter (N := 7) (l := [_]) Try.func27 rfl rfl (fun a w hF hS => ?_)
  refine c_seq ?_
  refine c_region ?_
  refine seq_wp (wn_none rfl) (wp_box (cs := #[_, _, _]) hF hS rfl rfl rfl rfl rfl ?_)
  clear hF hS; intro a w g31 hF hS
  refine seq_yl hF (wn_none rfl) rfl rfl (yl_assign hF rfl rfl) ?_
  clear hF; intro a hF
  refine wpList_nil ?_
  refine then_n ?_
  refine c_seq ?_
  refine c_region ?_
  refine seq_yl hF (wn_none rfl) rfl rfl (yl_fieldAddr hF rfl rfl (fun w => by kernel_rfl : ∀ w, (Instr.fieldAt 24 (.pointer (some ⟨g31, 0, none⟩)) 0).run Try.prog w = .ok (.pointer (some ⟨g31, 0, none⟩)) w)) ?_
  clear hF; intro a hF
  refine seq_yl hF (wn_none rfl) rfl rfl (yl_load (fun _ h => h ▸ hS) hF rfl rfl 0 rfl ag9 rfl) ?_
  clear hF; intro a hF
  refine seq_yl hF (wn_none rfl) rfl rfl (yl_len hF rfl rfl (fun _ => run_lenStr Try.underlying9)) ?_
  clear hF; intro a hF
  refine seq_yl hF (wn_none rfl) rfl rfl (yl_bin hF rfl rfl rfl rfl (fun _ => run_quoN (by omega) (by omega) (by omega))) ?_
  clear hF; intro a hF
  refine seq_yl hF (wn_none rfl) rfl rfl (yl_assign hF rfl rfl) ?_
  clear hF; intro a hF
  refine wpList_nil ?_
  refine then_n ?_
  refine wp_ret ?_
  refine ret_t hF rfl rfl ?_
  exact ⟨_, rfl, rfl, (hS.sub [] (by decide) (by first | rfl | simp) (by simp))⟩

set_option maxRecDepth 100000 in
theorem has_any (st : ByteArray) (lv : Value) (rm s c : Int) (w0 : World) (hz : (st.size : Int) ≤ 9223372036854775807) :
    Fn Try.prog 60 #[.agg #[.string st, lv, .int .i64 rm], .int .i64 s, .int .i64 c] w0 (fun v w' => v = .bool (decide (okS (st.size : Int) s c)) ∧ Sat w0 w' []) := by
  refine c_enter (N := 18) (l := [_, _, _]) Try.func60 rfl rfl (fun a w hF hS => ?_)
  refine c_seq ?_
  refine c_region ?_
  refine seq_wp (wn_none rfl) (wp_box (cs := #[_, _, _]) hF hS rfl rfl rfl rfl rfl ?_)
  clear hF hS; intro a w g32 hF hS
  refine seq_yl hF (wn_none rfl) rfl rfl (yl_assign hF rfl rfl) ?_
  clear hF; intro a hF
  refine wpList_nil ?_
  refine then_n ?_
  refine c_seq ?_
  refine c_region ?_
  refine seq_yl hF (wn_none rfl) rfl rfl (yl_fieldAddr hF rfl rfl (fun w => by kernel_rfl : ∀ w, (Instr.fieldAt 24 (.pointer (some ⟨g32, 0, none⟩)) 0).run Try.prog w = .ok (.pointer (some ⟨g32, 0, none⟩)) w)) ?_
  clear hF; intro a hF
  refine seq_yl hF (wn_none rfl) rfl rfl (yl_load (fun _ h => h ▸ hS) hF rfl rfl 0 rfl ag9 rfl) ?_
  clear hF; intro a hF
  refine seq_yl hF (wn_none rfl) rfl rfl (yl_move hF rfl rfl) ?_
  clear hF; intro a hF
  refine seq_yl hF (wn_none rfl) rfl rfl (yl_move hF rfl rfl) ?_
  clear hF; intro a hF
  refine seq_wp (wn_none rfl) (wp_call (vs := [_, _, _]) hF rfl rfl rfl rfl cf42 (imRead_any st (s) (c) _ (by omega)) ?_)
  clear hF; rintro _ w ⟨xs33, e34, rfl, hsp35, hS1⟩ a hF
  replace hS := hS.callB hS1 rfl; clear hS1
  have hsp35z := fun h9 : okS ((st).size : Int) (s) (c) => subs_size (s := st) (i := (s) * 8) (j := ((s) + (c)) * 8) (by unfold okS at h9; omega) (by unfold okS at h9; omega) (by unfold okS okI at h9; omega)
  rcases hsp35 with ⟨hk36, rfl, rfl⟩ | ⟨hk36, rfl, rfl⟩ <;> (try (have hk36x := hk36; simp only [okS, okI, okW, okP] at hk36x))
  · skip
    refine seq_yl hF (wn_none rfl) rfl rfl (yl_move hF rfl rfl) ?_
    clear hF; intro a hF
    refine seq_yl hF (wn_none rfl) rfl rfl (yl_extract hF rfl rfl rfl) ?_
    clear hF; intro a hF
    refine seq_yl hF (wn_none rfl) rfl rfl (yl_extract hF rfl rfl rfl) ?_
    clear hF; intro a hF
    refine seq_yl hF (wn_none rfl) rfl rfl (yl_assign hF rfl rfl) ?_
    clear hF; intro a hF
    refine seq_yl hF (wn_none rfl) rfl rfl (yl_assign hF rfl rfl) ?_
    clear hF; intro a hF
    refine wpList_nil ?_
    refine then_n ?_
    refine c_seq ?_
    refine c_region ?_
    refine seq_yl hF (wn_none rfl) rfl rfl (yl_move hF rfl rfl) ?_
    clear hF; intro a hF
    refine seq_yl hF (wn_none rfl) rfl rfl (yl_assign hF rfl rfl) ?_
    clear hF; intro a hF
    refine wpList_nil ?_
    refine then_n ?_
    refine wp_ret ?_
    refine ret_t hF rfl rfl ?_
    exact ⟨_, rfl, congrArg Value.bool (dec_t (by assumption)), (hS.sub [] (by decide) (by first | rfl | simp) (by simp))⟩
  · skip
    refine seq_yl hF (wn_none rfl) rfl rfl (yl_move hF rfl rfl) ?_
    clear hF; intro a hF
    refine seq_yl hF (wn_none rfl) rfl rfl (yl_extract hF rfl rfl rfl) ?_
    clear hF; intro a hF
    refine seq_yl hF (wn_none rfl) rfl rfl (yl_extract hF rfl rfl rfl) ?_
    clear hF; intro a hF
    refine seq_yl hF (wn_none rfl) rfl rfl (yl_assign hF rfl rfl) ?_
    clear hF; intro a hF
    refine seq_yl hF (wn_none rfl) rfl rfl (yl_assign hF rfl rfl) ?_
    clear hF; intro a hF
    refine wpList_nil ?_
    refine then_n ?_
    refine c_seq ?_
    refine c_region ?_
    refine seq_yl hF (wn_none rfl) rfl rfl (yl_move hF rfl rfl) ?_
    clear hF; intro a hF
    refine seq_yl hF (wn_none rfl) rfl rfl (yl_assign hF rfl rfl) ?_
    clear hF; intro a hF
    refine wpList_nil ?_
    refine then_n ?_
    refine wp_ret ?_
    refine ret_t hF rfl rfl ?_
    exact ⟨_, rfl, congrArg Value.bool (dec_f (by assumption)), (hS.sub [] (by decide) (by first | rfl | simp) (by simp))⟩

end Go.Proofs.Ytlhcpeolkkadbaa

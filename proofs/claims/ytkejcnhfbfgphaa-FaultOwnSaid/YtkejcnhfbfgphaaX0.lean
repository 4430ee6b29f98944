/- walks, printed by wip/gen -/
import Derived.Test.YtkejcnhfbfgphaaW0
import Derived.Test.YtkejcnhfbfgphaaPD
namespace Go.Proofs.Ytkejcnhfbfgphaa
open Go.RowKit
set_option linter.unusedVariables false
set_option linter.unusedSimpArgs false

set_option maxRecDepth 100000 in
theorem imValid_any (im : ByteArray) (w0 : World) :
  Fn Try.prog 74 #[.string im] w0 (fun v w' => v = .bool (decide (okI (im.size : Int))) ∧ Sat w0 w' []) := by
 refine c_enter (N := 12) (l := [_]) Try.func74 rfl rfl (fun a w hF hS => ?_)
 refine c_seq ?_
 refine c_region ?_
 refine asN hF rfl rfl rfl rfl rfl ?_; clear hF; intro a hF
 refine wpList_nil ?_
 refine then_n ?_
 refine c_seq ?_
 refine c_region ?_
 refine mvN hF rfl rfl rfl rfl rfl ?_; clear hF; intro a hF
 refine seq_yl hF (wn_none rfl) rfl rfl (yl_len hF rfl rfl (fun _ => run_lenStr Try.underlying9)) ?_; clear hF; intro a hF
 refine seq_yl hF (wn_none rfl) rfl rfl (yl_bin hF rfl rfl rfl rfl (fun _ => run_remN (by omega) (by omega))) ?_; clear hF; intro a hF
 refine seq_yl hF (wn_none rfl) rfl rfl (yl_bin hF rfl rfl rfl rfl (fun _ => run_eql)) ?_; clear hF; intro a hF
 refine mvN hF rfl rfl rfl rfl rfl ?_; clear hF; intro a hF
 refine fr_split hF (fun hc340 hF => ?_) (fun hc340 hF => ?_)
 ·first | (replace hc340 := of_decide_eq_true hc340) | (replace hc340 := of_decide_eq_false (bnot_t hc340)) | (subst hc340) | (replace hc340 := bnot_t hc340; subst hc340) | (replace hc340 := bnot_t hc340) | skip
  try (have hc340x := hc340; simp only [okS, okI, okW, okP] at hc340x)
  refine seq_yl hF (wn_t hF rfl rfl rfl rfl) rfl rfl (yl_move hF rfl rfl) ?_; clear hF; intro a hF
  refine seq_yl hF (wn_t hF rfl rfl rfl rfl) rfl rfl (yl_len hF rfl rfl (fun _ => run_lenStr Try.underlying9)) ?_; clear hF; intro a hF
  refine seq_yl hF (wn_t hF rfl rfl rfl rfl) rfl rfl (yl_bin hF rfl rfl rfl rfl (fun _ => run_leq)) ?_; clear hF; intro a hF
  refine seq_yl hF (wn_none rfl) rfl rfl (pkT hF rfl rfl rfl) ?_; clear hF; intro a hF
  refine asN hF rfl rfl rfl rfl rfl ?_; clear hF; intro a hF
  refine wpList_nil ?_
  refine then_n ?_
  refine wp_ret ?_
  refine ret_t hF rfl rfl ?_
  exact ⟨_, rfl, congrArg Value.bool (dec_d (by constructor <;> intro _ <;> (unfold okI at *; omega))), (hS.sub [] (by decide) (by first | rfl | simp) (by simp))⟩
 ·first | (replace hc340 := of_decide_eq_false hc340) | (replace hc340 := of_decide_eq_true (bnot_f hc340)) | (subst hc340) | (replace hc340 := bnot_f hc340; subst hc340) | (replace hc340 := bnot_f hc340) | skip
  try (have hc340x := hc340; simp only [okS, okI, okW, okP] at hc340x)
  refine skF hF rfl rfl rfl rfl rfl rfl ?_; clear hF; intro a hF
  refine skF hF rfl rfl rfl rfl rfl rfl ?_; clear hF; intro a hF
  refine skF hF rfl rfl rfl rfl rfl rfl ?_; clear hF; intro a hF
  refine seq_yl hF (wn_none rfl) rfl rfl (pkF hF rfl rfl rfl) ?_; clear hF; intro a hF
  refine asN hF rfl rfl rfl rfl rfl ?_; clear hF; intro a hF
  refine wpList_nil ?_
  refine then_n ?_
  refine wp_ret ?_
  refine ret_t hF rfl rfl ?_
  exact ⟨_, rfl, congrArg Value.bool (dec_f (by (unfold okI at *; omega))), (hS.sub [] (by decide) (by first | rfl | simp) (by simp))⟩

set_option maxRecDepth 100000 in
theorem imValid2_any (im : ByteArray) (w0 : World) :
  Fn Try.prog 68 #[.string im] w0 (fun v w' => v = .bool (decide (okI (im.size : Int))) ∧ Sat w0 w' []) := by
 refine c_enter (N := 12) (l := [_]) Try.func68 rfl rfl (fun a w hF hS => ?_)
 refine c_seq ?_
 refine c_region ?_
 refine asN hF rfl rfl rfl rfl rfl ?_; clear hF; intro a hF
 refine wpList_nil ?_
 refine then_n ?_
 refine c_seq ?_
 refine c_region ?_
 refine mvN hF rfl rfl rfl rfl rfl ?_; clear hF; intro a hF
 refine seq_yl hF (wn_none rfl) rfl rfl (yl_len hF rfl rfl (fun _ => run_lenStr Try.underlying9)) ?_; clear hF; intro a hF
 refine seq_yl hF (wn_none rfl) rfl rfl (yl_bin hF rfl rfl rfl rfl (fun _ => run_remN (by omega) (by omega))) ?_; clear hF; intro a hF
 refine seq_yl hF (wn_none rfl) rfl rfl (yl_bin hF rfl rfl rfl rfl (fun _ => run_eql)) ?_; clear hF; intro a hF
 refine mvN hF rfl rfl rfl rfl rfl ?_; clear hF; intro a hF
 refine fr_split hF (fun hc341 hF => ?_) (fun hc341 hF => ?_)
 ·first | (replace hc341 := of_decide_eq_true hc341) | (replace hc341 := of_decide_eq_false (bnot_t hc341)) | (subst hc341) | (replace hc341 := bnot_t hc341; subst hc341) | (replace hc341 := bnot_t hc341) | skip
  try (have hc341x := hc341; simp only [okS, okI, okW, okP] at hc341x)
  refine seq_yl hF (wn_t hF rfl rfl rfl rfl) rfl rfl (yl_move hF rfl rfl) ?_; clear hF; intro a hF
  refine seq_yl hF (wn_t hF rfl rfl rfl rfl) rfl rfl (yl_len hF rfl rfl (fun _ => run_lenStr Try.underlying9)) ?_; clear hF; intro a hF
  refine seq_yl hF (wn_t hF rfl rfl rfl rfl) rfl rfl (yl_bin hF rfl rfl rfl rfl (fun _ => run_leq)) ?_; clear hF; intro a hF
  refine seq_yl hF (wn_none rfl) rfl rfl (pkT hF rfl rfl rfl) ?_; clear hF; intro a hF
  refine asN hF rfl rfl rfl rfl rfl ?_; clear hF; intro a hF
  refine wpList_nil ?_
  refine then_n ?_
  refine wp_ret ?_
  refine ret_t hF rfl rfl ?_
  exact ⟨_, rfl, congrArg Value.bool (dec_d (by constructor <;> intro _ <;> (unfold okI at *; omega))), (hS.sub [] (by decide) (by first | rfl | simp) (by simp))⟩
 ·first | (replace hc341 := of_decide_eq_false hc341) | (replace hc341 := of_decide_eq_true (bnot_f hc341)) | (subst hc341) | (replace hc341 := bnot_f hc341; subst hc341) | (replace hc341 := bnot_f hc341) | skip
  try (have hc341x := hc341; simp only [okS, okI, okW, okP] at hc341x)
  refine skF hF rfl rfl rfl rfl rfl rfl ?_; clear hF; intro a hF
  refine skF hF rfl rfl rfl rfl rfl rfl ?_; clear hF; intro a hF
  refine skF hF rfl rfl rfl rfl rfl rfl ?_; clear hF; intro a hF
  refine seq_yl hF (wn_none rfl) rfl rfl (pkF hF rfl rfl rfl) ?_; clear hF; intro a hF
  refine asN hF rfl rfl rfl rfl rfl ?_; clear hF; intro a hF
  refine wpList_nil ?_
  refine then_n ?_
  refine wp_ret ?_
  refine ret_t hF rfl rfl ?_
  exact ⟨_, rfl, congrArg Value.bool (dec_f (by (unfold okI at *; omega))), (hS.sub [] (by decide) (by first | rfl | simp) (by simp))⟩

set_option maxRecDepth 100000 in
theorem span_any (im : ByteArray) (s c : Int) (w0 : World) (hz : (im.size : Int) ≤ 9223372036854775807) :
  Fn Try.prog 83 #[.string im, .int .i64 s, .int .i64 c] w0 (fun v w' => ∃ (a b : Int) (e : Bool), v = .tuple #[.int .i64 a, .int .i64 b, .bool e] ∧ ((okS (im.size : Int) s c ∧ a = s * 8 ∧ b = (s + c) * 8 ∧ e = true) ∨ (¬ okS (im.size : Int) s c ∧ a = 0 ∧ b = 0 ∧ e = false)) ∧ Sat w0 w' []) := by
 refine c_enter (N := 42) (l := [_, _, _]) Try.func83 rfl rfl (fun a w hF hS => ?_)
 refine c_seq ?_
 refine c_region ?_
 refine asN hF rfl rfl rfl rfl rfl ?_; clear hF; intro a hF
 refine asN hF rfl rfl rfl rfl rfl ?_; clear hF; intro a hF
 refine asN hF rfl rfl rfl rfl rfl ?_; clear hF; intro a hF
 refine wpList_nil ?_
 refine then_n ?_
 refine c_seq ?_
 refine c_region ?_
 refine mvN hF rfl rfl rfl rfl rfl ?_; clear hF; intro a hF
 refine seq_yl hF (wn_none rfl) rfl rfl (yl_len hF rfl rfl (fun _ => run_lenStr Try.underlying9)) ?_; clear hF; intro a hF
 refine seq_yl hF (wn_none rfl) rfl rfl (yl_bin hF rfl rfl rfl rfl (fun _ => run_quoN (by omega) (by omega) (by omega))) ?_; clear hF; intro a hF
 refine asN hF rfl rfl rfl rfl rfl ?_; clear hF; intro a hF
 refine wpList_nil ?_
 refine then_n ?_
 refine c_seq ?_
 refine c_seq ?_
 refine c_region ?_
 refine mvN hF rfl rfl rfl rfl rfl ?_; clear hF; intro a hF
 refine seq_wp (wn_none rfl) (wp_call (vs := [_]) hF rfl rfl rfl rfl cf74 (imValid_any im _) ?_)
 clear hF; rintro _ w ⟨rfl, hS1⟩ a hF
 replace hS := hS.callB hS1 rfl; clear hS1
 refine seq_yl hF (wn_none rfl) rfl rfl (yl_un hF rfl rfl (fun _ => run_not)) ?_; clear hF; intro a hF
 refine mvN hF rfl rfl rfl rfl rfl ?_; clear hF; intro a hF
 refine fr_split hF (fun hc342 hF => ?_) (fun hc342 hF => ?_)
 ·first | (replace hc342 := of_decide_eq_true hc342) | (replace hc342 := of_decide_eq_false (bnot_t hc342)) | (subst hc342) | (replace hc342 := bnot_t hc342; subst hc342) | (replace hc342 := bnot_t hc342) | skip
  try (have hc342x := hc342; simp only [okS, okI, okW, okP] at hc342x)
  refine skF hF rfl rfl rfl rfl rfl rfl ?_; clear hF; intro a hF
  refine skF hF rfl rfl rfl rfl rfl rfl ?_; clear hF; intro a hF
  refine seq_yl hF (wn_none rfl) rfl rfl (pkT hF rfl rfl rfl) ?_; clear hF; intro a hF
  refine mvN hF rfl rfl rfl rfl rfl ?_; clear hF; intro a hF
  refine skF hF rfl rfl rfl rfl rfl rfl ?_; clear hF; intro a hF
  refine skF hF rfl rfl rfl rfl rfl rfl ?_; clear hF; intro a hF
  refine seq_yl hF (wn_none rfl) rfl rfl (pkT hF rfl rfl rfl) ?_; clear hF; intro a hF
  refine mvN hF rfl rfl rfl rfl rfl ?_; clear hF; intro a hF
  refine skF hF rfl rfl rfl rfl rfl rfl ?_; clear hF; intro a hF
  refine skF hF rfl rfl rfl rfl rfl rfl ?_; clear hF; intro a hF
  refine skF hF rfl rfl rfl rfl rfl rfl ?_; clear hF; intro a hF
  refine seq_yl hF (wn_none rfl) rfl rfl (pkT hF rfl rfl rfl) ?_; clear hF; intro a hF
  refine mvN hF rfl rfl rfl rfl rfl ?_; clear hF; intro a hF
  refine skF hF rfl rfl rfl rfl rfl rfl ?_; clear hF; intro a hF
  refine skF hF rfl rfl rfl rfl rfl rfl ?_; clear hF; intro a hF
  refine skF hF rfl rfl rfl rfl rfl rfl ?_; clear hF; intro a hF
  refine skF hF rfl rfl rfl rfl rfl rfl ?_; clear hF; intro a hF
  refine skF hF rfl rfl rfl rfl rfl rfl ?_; clear hF; intro a hF
  refine seq_yl hF (wn_none rfl) rfl rfl (pkT hF rfl rfl rfl) ?_; clear hF; intro a hF
  refine wpList_nil ?_
  refine then_n ?_
  refine c_cond_t hF rfl ?_
  refine c_seq ?_
  refine c_region ?_
  refine asN hF rfl rfl rfl rfl rfl ?_; clear hF; intro a hF
  refine asN hF rfl rfl rfl rfl rfl ?_; clear hF; intro a hF
  refine asN hF rfl rfl rfl rfl rfl ?_; clear hF; intro a hF
  refine wpList_nil ?_
  refine then_n ?_
  refine wp_ret ?_
  refine then_r ?_
  refine ret_ttt hF rfl rfl rfl rfl ?_
  exact ⟨_, rfl, _, _, _, rfl, .inr ⟨fun h9 => by simp only [okW, okS, okI] at h9; omega, rfl, rfl, rfl⟩, (hS.sub [] (by decide) (by first | rfl | simp) (by simp))⟩
 ·first | (replace hc342 := of_decide_eq_false hc342) | (replace hc342 := of_decide_eq_true (bnot_f hc342)) | (subst hc342) | (replace hc342 := bnot_f hc342; subst hc342) | (replace hc342 := bnot_f hc342) | skip
  try (have hc342x := hc342; simp only [okS, okI, okW, okP] at hc342x)
  refine seq_yl hF (wn_t hF rfl rfl rfl rfl) rfl rfl (yl_move hF rfl rfl) ?_; clear hF; intro a hF
  refine seq_yl hF (wn_t hF rfl rfl rfl rfl) rfl rfl (yl_bin hF rfl rfl rfl rfl (fun _ => run_lss)) ?_; clear hF; intro a hF
  refine seq_yl hF (wn_none rfl) rfl rfl (pkF hF rfl rfl rfl) ?_; clear hF; intro a hF
  refine mvN hF rfl rfl rfl rfl rfl ?_; clear hF; intro a hF
  refine fr_split hF (fun hc343 hF => ?_) (fun hc343 hF => ?_)
  ·first | (replace hc343 := of_decide_eq_true hc343) | (replace hc343 := of_decide_eq_false (bnot_t hc343)) | (subst hc343) | (replace hc343 := bnot_t hc343; subst hc343) | (replace hc343 := bnot_t hc343) | skip
   try (have hc343x := hc343; simp only [okS, okI, okW, okP] at hc343x)
   refine skF hF rfl rfl rfl rfl rfl rfl ?_; clear hF; intro a hF
   refine skF hF rfl rfl rfl rfl rfl rfl ?_; clear hF; intro a hF
   refine seq_yl hF (wn_none rfl) rfl rfl (pkT hF rfl rfl rfl) ?_; clear hF; intro a hF
   refine mvN hF rfl rfl rfl rfl rfl ?_; clear hF; intro a hF
   refine skF hF rfl rfl rfl rfl rfl rfl ?_; clear hF; intro a hF
   refine skF hF rfl rfl rfl rfl rfl rfl ?_; clear hF; intro a hF
   refine skF hF rfl rfl rfl rfl rfl rfl ?_; clear hF; intro a hF
   refine seq_yl hF (wn_none rfl) rfl rfl (pkT hF rfl rfl rfl) ?_; clear hF; intro a hF
   refine mvN hF rfl rfl rfl rfl rfl ?_; clear hF; intro a hF
   refine skF hF rfl rfl rfl rfl rfl rfl ?_; clear hF; intro a hF
   refine skF hF rfl rfl rfl rfl rfl rfl ?_; clear hF; intro a hF
   refine skF hF rfl rfl rfl rfl rfl rfl ?_; clear hF; intro a hF
   refine skF hF rfl rfl rfl rfl rfl rfl ?_; clear hF; intro a hF
   refine skF hF rfl rfl rfl rfl rfl rfl ?_; clear hF; intro a hF
   refine seq_yl hF (wn_none rfl) rfl rfl (pkT hF rfl rfl rfl) ?_; clear hF; intro a hF
   refine wpList_nil ?_
   refine then_n ?_
   refine c_cond_t hF rfl ?_
   refine c_seq ?_
   refine c_region ?_
   refine asN hF rfl rfl rfl rfl rfl ?_; clear hF; intro a hF
   refine asN hF rfl rfl rfl rfl rfl ?_; clear hF; intro a hF
   refine asN hF rfl rfl rfl rfl rfl ?_; clear hF; intro a hF
   refine wpList_nil ?_
   refine then_n ?_
   refine wp_ret ?_
   refine then_r ?_
   refine ret_ttt hF rfl rfl rfl rfl ?_
   exact ⟨_, rfl, _, _, _, rfl, .inr ⟨fun h9 => by simp only [okW, okS, okI] at h9; omega, rfl, rfl, rfl⟩, (hS.sub [] (by decide) (by first | rfl | simp) (by simp))⟩
  ·first | (replace hc343 := of_decide_eq_false hc343) | (replace hc343 := of_decide_eq_true (bnot_f hc343)) | (subst hc343) | (replace hc343 := bnot_f hc343; subst hc343) | (replace hc343 := bnot_f hc343) | skip
   try (have hc343x := hc343; simp only [okS, okI, okW, okP] at hc343x)
   refine seq_yl hF (wn_t hF rfl rfl rfl rfl) rfl rfl (yl_move hF rfl rfl) ?_; clear hF; intro a hF
   refine seq_yl hF (wn_t hF rfl rfl rfl rfl) rfl rfl (yl_bin hF rfl rfl rfl rfl (fun _ => run_lss)) ?_; clear hF; intro a hF
   refine seq_yl hF (wn_none rfl) rfl rfl (pkF hF rfl rfl rfl) ?_; clear hF; intro a hF
   refine mvN hF rfl rfl rfl rfl rfl ?_; clear hF; intro a hF
   refine fr_split hF (fun hc344 hF => ?_) (fun hc344 hF => ?_)
   ·first | (replace hc344 := of_decide_eq_true hc344) | (replace hc344 := of_decide_eq_false (bnot_t hc344)) | (subst hc344) | (replace hc344 := bnot_t hc344; subst hc344) | (replace hc344 := bnot_t hc344) | skip
    try (have hc344x := hc344; simp only [okS, okI, okW, okP] at hc344x)
    refine skF hF rfl rfl rfl rfl rfl rfl ?_; clear hF; intro a hF
    refine skF hF rfl rfl rfl rfl rfl rfl ?_; clear hF; intro a hF
    refine skF hF rfl rfl rfl rfl rfl rfl ?_; clear hF; intro a hF
    refine seq_yl hF (wn_none rfl) rfl rfl (pkT hF rfl rfl rfl) ?_; clear hF; intro a hF
    refine mvN hF rfl rfl rfl rfl rfl ?_; clear hF; intro a hF
    refine skF hF rfl rfl rfl rfl rfl rfl ?_; clear hF; intro a hF
    refine skF hF rfl rfl rfl rfl rfl rfl ?_; clear hF; intro a hF
    refine skF hF rfl rfl rfl rfl rfl rfl ?_; clear hF; intro a hF
    refine skF hF rfl rfl rfl rfl rfl rfl ?_; clear hF; intro a hF
    refine skF hF rfl rfl rfl rfl rfl rfl ?_; clear hF; intro a hF
    refine seq_yl hF (wn_none rfl) rfl rfl (pkT hF rfl rfl rfl) ?_; clear hF; intro a hF
    refine wpList_nil ?_
    refine then_n ?_
    refine c_cond_t hF rfl ?_
    refine c_seq ?_
    refine c_region ?_
    refine asN hF rfl rfl rfl rfl rfl ?_; clear hF; intro a hF
    refine asN hF rfl rfl rfl rfl rfl ?_; clear hF; intro a hF
    refine asN hF rfl rfl rfl rfl rfl ?_; clear hF; intro a hF
    refine wpList_nil ?_
    refine then_n ?_
    refine wp_ret ?_
    refine then_r ?_
    refine ret_ttt hF rfl rfl rfl rfl ?_
    exact ⟨_, rfl, _, _, _, rfl, .inr ⟨fun h9 => by simp only [okW, okS, okI] at h9; omega, rfl, rfl, rfl⟩, (hS.sub [] (by decide) (by first | rfl | simp) (by simp))⟩
   ·first | (replace hc344 := of_decide_eq_false hc344) | (replace hc344 := of_decide_eq_true (bnot_f hc344)) | (subst hc344) | (replace hc344 := bnot_f hc344; subst hc344) | (replace hc344 := bnot_f hc344) | skip
    try (have hc344x := hc344; simp only [okS, okI, okW, okP] at hc344x)
    refine seq_yl hF (wn_t hF rfl rfl rfl rfl) rfl rfl (yl_move hF rfl rfl) ?_; clear hF; intro a hF
    refine seq_yl hF (wn_t hF rfl rfl rfl rfl) rfl rfl (yl_move hF rfl rfl) ?_; clear hF; intro a hF
    refine seq_yl hF (wn_t hF rfl rfl rfl rfl) rfl rfl (yl_bin hF rfl rfl rfl rfl (fun _ => run_geq)) ?_; clear hF; intro a hF
    refine seq_yl hF (wn_none rfl) rfl rfl (pkF hF rfl rfl rfl) ?_; clear hF; intro a hF
    refine mvN hF rfl rfl rfl rfl rfl ?_; clear hF; intro a hF
    refine fr_split hF (fun hc345 hF => ?_) (fun hc345 hF => ?_)
    ·first | (replace hc345 := of_decide_eq_true hc345) | (replace hc345 := of_decide_eq_false (bnot_t hc345)) | (subst hc345) | (replace hc345 := bnot_t hc345; subst hc345) | (replace hc345 := bnot_t hc345) | skip
     try (have hc345x := hc345; simp only [okS, okI, okW, okP] at hc345x)
     refine skF hF rfl rfl rfl rfl rfl rfl ?_; clear hF; intro a hF
     refine skF hF rfl rfl rfl rfl rfl rfl ?_; clear hF; intro a hF
     refine skF hF rfl rfl rfl rfl rfl rfl ?_; clear hF; intro a hF
     refine skF hF rfl rfl rfl rfl rfl rfl ?_; clear hF; intro a hF
     refine skF hF rfl rfl rfl rfl rfl rfl ?_; clear hF; intro a hF
     refine seq_yl hF (wn_none rfl) rfl rfl (pkT hF rfl rfl rfl) ?_; clear hF; intro a hF
     refine wpList_nil ?_
     refine then_n ?_
     refine c_cond_t hF rfl ?_
     refine c_seq ?_
     refine c_region ?_
     refine asN hF rfl rfl rfl rfl rfl ?_; clear hF; intro a hF
     refine asN hF rfl rfl rfl rfl rfl ?_; clear hF; intro a hF
     refine asN hF rfl rfl rfl rfl rfl ?_; clear hF; intro a hF
     refine wpList_nil ?_
     refine then_n ?_
     refine wp_ret ?_
     refine then_r ?_
     refine ret_ttt hF rfl rfl rfl rfl ?_
     exact ⟨_, rfl, _, _, _, rfl, .inr ⟨fun h9 => by simp only [okW, okS, okI] at h9; omega, rfl, rfl, rfl⟩, (hS.sub [] (by decide) (by first | rfl | simp) (by simp))⟩
    ·first | (replace hc345 := of_decide_eq_false hc345) | (replace hc345 := of_decide_eq_true (bnot_f hc345)) | (subst hc345) | (replace hc345 := bnot_f hc345; subst hc345) | (replace hc345 := bnot_f hc345) | skip
     try (have hc345x := hc345; simp only [okS, okI, okW, okP] at hc345x)
     refine seq_yl hF (wn_t hF rfl rfl rfl rfl) rfl rfl (yl_move hF rfl rfl) ?_; clear hF; intro a hF
     refine seq_yl hF (wn_t hF rfl rfl rfl rfl) rfl rfl (yl_move hF rfl rfl) ?_; clear hF; intro a hF
     refine seq_yl hF (wn_t hF rfl rfl rfl rfl) rfl rfl (yl_move hF rfl rfl) ?_; clear hF; intro a hF
     refine seq_yl hF (wn_t hF rfl rfl rfl rfl) rfl rfl (yl_bin hF rfl rfl rfl rfl (fun _ => run_sub (by refine ⟨?_, ?_⟩ <;> omega))) ?_; clear hF; intro a hF
     refine seq_yl hF (wn_t hF rfl rfl rfl rfl) rfl rfl (yl_bin hF rfl rfl rfl rfl (fun _ => run_gtr)) ?_; clear hF; intro a hF
     refine seq_yl hF (wn_none rfl) rfl rfl (pkF hF rfl rfl rfl) ?_; clear hF; intro a hF
     refine wpList_nil ?_
     refine then_n ?_
     refine c_cond hF rfl (fun hc346 => ?_) (fun hc346 => ?_)
     ·first | (replace hc346 := of_decide_eq_true hc346) | (replace hc346 := of_decide_eq_false (bnot_t hc346)) | (subst hc346) | (replace hc346 := bnot_t hc346; subst hc346) | (replace hc346 := bnot_t hc346) | skip
      try (have hc346x := hc346; simp only [okS, okI, okW, okP] at hc346x)
      refine c_seq ?_
      refine c_region ?_
      refine asN hF rfl rfl rfl rfl rfl ?_; clear hF; intro a hF
      refine asN hF rfl rfl rfl rfl rfl ?_; clear hF; intro a hF
      refine asN hF rfl rfl rfl rfl rfl ?_; clear hF; intro a hF
      refine wpList_nil ?_
      refine then_n ?_
      refine wp_ret ?_
      refine then_r ?_
      refine ret_ttt hF rfl rfl rfl rfl ?_
      exact ⟨_, rfl, _, _, _, rfl, .inr ⟨fun h9 => by simp only [okW, okS, okI] at h9; omega, rfl, rfl, rfl⟩, (hS.sub [] (by decide) (by first | rfl | simp) (by simp))⟩
     ·first | (replace hc346 := of_decide_eq_false hc346) | (replace hc346 := of_decide_eq_true (bnot_f hc346)) | (subst hc346) | (replace hc346 := bnot_f hc346; subst hc346) | (replace hc346 := bnot_f hc346) | skip
      try (have hc346x := hc346; simp only [okS, okI, okW, okP] at hc346x)
      refine wp_skip ?_
      refine then_n ?_
      refine c_seq ?_
      refine c_region ?_
      refine mvN hF rfl rfl rfl rfl rfl ?_; clear hF; intro a hF
      refine seq_yl hF (wn_none rfl) rfl rfl (yl_bin hF rfl rfl rfl rfl (fun _ => run_mul (by refine ⟨?_, ?_⟩ <;> omega))) ?_; clear hF; intro a hF
      refine mvN hF rfl rfl rfl rfl rfl ?_; clear hF; intro a hF
      refine mvN hF rfl rfl rfl rfl rfl ?_; clear hF; intro a hF
      refine seq_yl hF (wn_none rfl) rfl rfl (yl_bin hF rfl rfl rfl rfl (fun _ => run_add (by refine ⟨?_, ?_⟩ <;> omega))) ?_; clear hF; intro a hF
      refine seq_yl hF (wn_none rfl) rfl rfl (yl_bin hF rfl rfl rfl rfl (fun _ => run_mul (by refine ⟨?_, ?_⟩ <;> omega))) ?_; clear hF; intro a hF
      refine asN hF rfl rfl rfl rfl rfl ?_; clear hF; intro a hF
      refine asN hF rfl rfl rfl rfl rfl ?_; clear hF; intro a hF
      refine asN hF rfl rfl rfl rfl rfl ?_; clear hF; intro a hF
      refine wpList_nil ?_
      refine then_n ?_
      refine wp_ret ?_
      refine ret_ttt hF rfl rfl rfl rfl ?_
      exact ⟨_, rfl, _, _, _, rfl, .inl ⟨by first | assumption | (unfold okW okS okI; omega) | (unfold okS okI; omega) | (unfold okI; omega), rfl, rfl, rfl⟩, (hS.sub [] (by decide) (by first | rfl | simp) (by simp))⟩

set_option maxRecDepth 100000 in
theorem imRead_any (im : ByteArray) (s c : Int) (w0 : World) (hz : (im.size : Int) ≤ 9223372036854775807) :
  Fn Try.prog 77 #[.string im, .int .i64 s, .int .i64 c] w0 (fun v w' => ∃ (x : ByteArray) (e : Bool), v = .tuple #[.string x, .bool e] ∧ ((okS (im.size : Int) s c ∧ x = subs im (s * 8) ((s + c) * 8) ∧ e = true) ∨ (¬ okS (im.size : Int) s c ∧ x = ⟨#[]⟩ ∧ e = false)) ∧ Sat w0 w' []) := by
 refine c_enter (N := 24) (l := [_, _, _]) Try.func77 rfl rfl (fun a w hF hS => ?_)
 refine c_seq ?_
 refine c_region ?_
 refine asN hF rfl rfl rfl rfl rfl ?_; clear hF; intro a hF
 refine asN hF rfl rfl rfl rfl rfl ?_; clear hF; intro a hF
 refine wpList_nil ?_
 refine then_n ?_
 refine c_seq ?_
 refine c_region ?_
 refine mvN hF rfl rfl rfl rfl rfl ?_; clear hF; intro a hF
 refine mvN hF rfl rfl rfl rfl rfl ?_; clear hF; intro a hF
 refine mvN hF rfl rfl rfl rfl rfl ?_; clear hF; intro a hF
 refine seq_wp (wn_none rfl) (wp_call (vs := [_, _, _]) hF rfl rfl rfl rfl cf83 (span_any im (s) (c) _ (by omega)) ?_)
 clear hF; rintro _ w ⟨a347, b348, e349, rfl, hsp350, hS1⟩ a hF
 replace hS := hS.callB hS1 rfl; clear hS1
 rcases hsp350 with ⟨hk351, rfl, rfl, rfl⟩ | ⟨hk351, rfl, rfl, rfl⟩ <;> (try (have hk351x := hk351; simp only [okS, okI, okW, okP] at hk351x))
 ·skip
  refine mvN hF rfl rfl rfl rfl rfl ?_; clear hF; intro a hF
  refine seq_yl hF (wn_none rfl) rfl rfl (yl_extract hF rfl rfl rfl) ?_; clear hF; intro a hF
  refine seq_yl hF (wn_none rfl) rfl rfl (yl_extract hF rfl rfl rfl) ?_; clear hF; intro a hF
  refine seq_yl hF (wn_none rfl) rfl rfl (yl_extract hF rfl rfl rfl) ?_; clear hF; intro a hF
  refine asN hF rfl rfl rfl rfl rfl ?_; clear hF; intro a hF
  refine asN hF rfl rfl rfl rfl rfl ?_; clear hF; intro a hF
  refine asN hF rfl rfl rfl rfl rfl ?_; clear hF; intro a hF
  refine wpList_nil ?_
  refine then_n ?_
  refine c_seq ?_
  refine c_region ?_
  refine mvN hF rfl rfl rfl rfl rfl ?_; clear hF; intro a hF
  refine mvN hF rfl rfl rfl rfl rfl ?_; clear hF; intro a hF
  refine mvN hF rfl rfl rfl rfl rfl ?_; clear hF; intro a hF
  have hz352 := subs_size (s := im) (i := (((s) * 8))) (j := ((((s) + (c)) * 8))) (by omega) (by omega) (by omega)
  refine seq_yl hF (wn_none rfl) rfl rfl (yl_subsLH (s := im) (i := (((s) * 8))) (j := ((((s) + (c)) * 8))) hF rfl rfl rfl rfl Try.underlying9 (by omega) (by omega) (by omega)) ?_; clear hF; intro a hF
  refine mvN hF rfl rfl rfl rfl rfl ?_; clear hF; intro a hF
  refine asN hF rfl rfl rfl rfl rfl ?_; clear hF; intro a hF
  refine asN hF rfl rfl rfl rfl rfl ?_; clear hF; intro a hF
  refine wpList_nil ?_
  refine then_n ?_
  refine wp_ret ?_
  refine ret_tt hF rfl rfl rfl ?_
  exact ⟨_, rfl, _, _, rfl, .inl ⟨by first | assumption | (unfold okW okS okI; omega) | (unfold okS okI; omega) | (unfold okI; omega), rfl, rfl⟩, (hS.sub [] (by decide) (by first | rfl | simp) (by simp))⟩
 ·skip
  refine mvN hF rfl rfl rfl rfl rfl ?_; clear hF; intro a hF
  refine seq_yl hF (wn_none rfl) rfl rfl (yl_extract hF rfl rfl rfl) ?_; clear hF; intro a hF
  refine seq_yl hF (wn_none rfl) rfl rfl (yl_extract hF rfl rfl rfl) ?_; clear hF; intro a hF
  refine seq_yl hF (wn_none rfl) rfl rfl (yl_extract hF rfl rfl rfl) ?_; clear hF; intro a hF
  refine asN hF rfl rfl rfl rfl rfl ?_; clear hF; intro a hF
  refine asN hF rfl rfl rfl rfl rfl ?_; clear hF; intro a hF
  refine asN hF rfl rfl rfl rfl rfl ?_; clear hF; intro a hF
  refine wpList_nil ?_
  refine then_n ?_
  refine c_seq ?_
  refine c_region ?_
  refine mvN hF rfl rfl rfl rfl rfl ?_; clear hF; intro a hF
  refine mvN hF rfl rfl rfl rfl rfl ?_; clear hF; intro a hF
  refine mvN hF rfl rfl rfl rfl rfl ?_; clear hF; intro a hF
  have hz353 := subs_size (s := im) (i := (0 : Int)) (j := (0 : Int)) (by omega) (by omega) (by omega)
  refine seq_yl hF (wn_none rfl) rfl rfl (yl_subsLH (s := im) (i := (0 : Int)) (j := (0 : Int)) hF rfl rfl rfl rfl Try.underlying9 (by omega) (by omega) (by omega)) ?_; clear hF; intro a hF
  refine mvN hF rfl rfl rfl rfl rfl ?_; clear hF; intro a hF
  refine asN hF rfl rfl rfl rfl rfl ?_; clear hF; intro a hF
  refine asN hF rfl rfl rfl rfl rfl ?_; clear hF; intro a hF
  refine wpList_nil ?_
  refine then_n ?_
  refine wp_ret ?_
  refine ret_tt hF rfl rfl rfl ?_
  exact ⟨_, rfl, _, _, rfl, .inr ⟨by first | assumption | (intro h9; simp only [okW, okS, okI] at h9; omega), subs_zero _, rfl⟩, (hS.sub [] (by decide) (by first | rfl | simp) (by simp))⟩

set_option maxRecDepth 100000 in
theorem in_any (s c n : Int) (w0 : World) (hn : 0 ≤ n ∧ n ≤ 9223372036854775807) :
  Fn Try.prog 46 #[.int .i64 s, .int .i64 c, .int .i64 n] w0 (fun v w' => v = .bool (decide (0 ≤ s ∧ 0 ≤ c ∧ s ≤ n ∧ c ≤ n - s)) ∧ Sat w0 w' []) := by
 refine c_enter (N := 25) (l := [_, _, _]) Try.func46 rfl rfl (fun a w hF hS => ?_)
 refine c_seq ?_
 refine c_region ?_
 refine asN hF rfl rfl rfl rfl rfl ?_; clear hF; intro a hF
 refine wpList_nil ?_
 refine then_n ?_
 refine c_seq ?_
 refine c_region ?_
 refine mvN hF rfl rfl rfl rfl rfl ?_; clear hF; intro a hF
 refine seq_yl hF (wn_none rfl) rfl rfl (yl_bin hF rfl rfl rfl rfl (fun _ => run_geq)) ?_; clear hF; intro a hF
 refine mvN hF rfl rfl rfl rfl rfl ?_; clear hF; intro a hF
 refine fr_split hF (fun hc354 hF => ?_) (fun hc354 hF => ?_)
 ·first | (replace hc354 := of_decide_eq_true hc354) | (replace hc354 := of_decide_eq_false (bnot_t hc354)) | (subst hc354) | (replace hc354 := bnot_t hc354; subst hc354) | (replace hc354 := bnot_t hc354) | skip
  try (have hc354x := hc354; simp only [okS, okI, okW, okP] at hc354x)
  refine seq_yl hF (wn_t hF rfl rfl rfl rfl) rfl rfl (yl_move hF rfl rfl) ?_; clear hF; intro a hF
  refine seq_yl hF (wn_t hF rfl rfl rfl rfl) rfl rfl (yl_bin hF rfl rfl rfl rfl (fun _ => run_geq)) ?_; clear hF; intro a hF
  refine seq_yl hF (wn_none rfl) rfl rfl (pkT hF rfl rfl rfl) ?_; clear hF; intro a hF
  refine mvN hF rfl rfl rfl rfl rfl ?_; clear hF; intro a hF
  refine fr_split hF (fun hc355 hF => ?_) (fun hc355 hF => ?_)
  ·first | (replace hc355 := of_decide_eq_true hc355) | (replace hc355 := of_decide_eq_false (bnot_t hc355)) | (subst hc355) | (replace hc355 := bnot_t hc355; subst hc355) | (replace hc355 := bnot_t hc355) | skip
   try (have hc355x := hc355; simp only [okS, okI, okW, okP] at hc355x)
   refine seq_yl hF (wn_t hF rfl rfl rfl rfl) rfl rfl (yl_move hF rfl rfl) ?_; clear hF; intro a hF
   refine seq_yl hF (wn_t hF rfl rfl rfl rfl) rfl rfl (yl_move hF rfl rfl) ?_; clear hF; intro a hF
   refine seq_yl hF (wn_t hF rfl rfl rfl rfl) rfl rfl (yl_bin hF rfl rfl rfl rfl (fun _ => run_leq)) ?_; clear hF; intro a hF
   refine seq_yl hF (wn_none rfl) rfl rfl (pkT hF rfl rfl rfl) ?_; clear hF; intro a hF
   refine mvN hF rfl rfl rfl rfl rfl ?_; clear hF; intro a hF
   refine fr_split hF (fun hc356 hF => ?_) (fun hc356 hF => ?_)
   ·first | (replace hc356 := of_decide_eq_true hc356) | (replace hc356 := of_decide_eq_false (bnot_t hc356)) | (subst hc356) | (replace hc356 := bnot_t hc356; subst hc356) | (replace hc356 := bnot_t hc356) | skip
    try (have hc356x := hc356; simp only [okS, okI, okW, okP] at hc356x)
    refine seq_yl hF (wn_t hF rfl rfl rfl rfl) rfl rfl (yl_move hF rfl rfl) ?_; clear hF; intro a hF
    refine seq_yl hF (wn_t hF rfl rfl rfl rfl) rfl rfl (yl_move hF rfl rfl) ?_; clear hF; intro a hF
    refine seq_yl hF (wn_t hF rfl rfl rfl rfl) rfl rfl (yl_move hF rfl rfl) ?_; clear hF; intro a hF
    refine seq_yl hF (wn_t hF rfl rfl rfl rfl) rfl rfl (yl_bin hF rfl rfl rfl rfl (fun _ => run_sub (by refine ⟨?_, ?_⟩ <;> omega))) ?_; clear hF; intro a hF
    refine seq_yl hF (wn_t hF rfl rfl rfl rfl) rfl rfl (yl_bin hF rfl rfl rfl rfl (fun _ => run_leq)) ?_; clear hF; intro a hF
    refine seq_yl hF (wn_none rfl) rfl rfl (pkT hF rfl rfl rfl) ?_; clear hF; intro a hF
    refine asN hF rfl rfl rfl rfl rfl ?_; clear hF; intro a hF
    refine wpList_nil ?_
    refine then_n ?_
    refine wp_ret ?_
    refine ret_t hF rfl rfl ?_
    exact ⟨_, rfl, congrArg Value.bool (dec_d (by constructor <;> intro _ <;> omega)), (hS.sub [] (by decide) (by first | rfl | simp) (by simp))⟩
   ·first | (replace hc356 := of_decide_eq_false hc356) | (replace hc356 := of_decide_eq_true (bnot_f hc356)) | (subst hc356) | (replace hc356 := bnot_f hc356; subst hc356) | (replace hc356 := bnot_f hc356) | skip
    try (have hc356x := hc356; simp only [okS, okI, okW, okP] at hc356x)
    refine skF hF rfl rfl rfl rfl rfl rfl ?_; clear hF; intro a hF
    refine skF hF rfl rfl rfl rfl rfl rfl ?_; clear hF; intro a hF
    refine skF hF rfl rfl rfl rfl rfl rfl ?_; clear hF; intro a hF
    refine skF hF rfl rfl rfl rfl rfl rfl ?_; clear hF; intro a hF
    refine skF hF rfl rfl rfl rfl rfl rfl ?_; clear hF; intro a hF
    refine seq_yl hF (wn_none rfl) rfl rfl (pkF hF rfl rfl rfl) ?_; clear hF; intro a hF
    refine asN hF rfl rfl rfl rfl rfl ?_; clear hF; intro a hF
    refine wpList_nil ?_
    refine then_n ?_
    refine wp_ret ?_
    refine ret_t hF rfl rfl ?_
    exact ⟨_, rfl, congrArg Value.bool (dec_f (by omega)), (hS.sub [] (by decide) (by first | rfl | simp) (by simp))⟩
  ·first | (replace hc355 := of_decide_eq_false hc355) | (replace hc355 := of_decide_eq_true (bnot_f hc355)) | (subst hc355) | (replace hc355 := bnot_f hc355; subst hc355) | (replace hc355 := bnot_f hc355) | skip
   try (have hc355x := hc355; simp only [okS, okI, okW, okP] at hc355x)
   refine skF hF rfl rfl rfl rfl rfl rfl ?_; clear hF; intro a hF
   refine skF hF rfl rfl rfl rfl rfl rfl ?_; clear hF; intro a hF
   refine skF hF rfl rfl rfl rfl rfl rfl ?_; clear hF; intro a hF
   refine seq_yl hF (wn_none rfl) rfl rfl (pkF hF rfl rfl rfl) ?_; clear hF; intro a hF
   refine mvN hF rfl rfl rfl rfl rfl ?_; clear hF; intro a hF
   refine skF hF rfl rfl rfl rfl rfl rfl ?_; clear hF; intro a hF
   refine skF hF rfl rfl rfl rfl rfl rfl ?_; clear hF; intro a hF
   refine skF hF rfl rfl rfl rfl rfl rfl ?_; clear hF; intro a hF
   refine skF hF rfl rfl rfl rfl rfl rfl ?_; clear hF; intro a hF
   refine skF hF rfl rfl rfl rfl rfl rfl ?_; clear hF; intro a hF
   refine seq_yl hF (wn_none rfl) rfl rfl (pkF hF rfl rfl rfl) ?_; clear hF; intro a hF
   refine asN hF rfl rfl rfl rfl rfl ?_; clear hF; intro a hF
   refine wpList_nil ?_
   refine then_n ?_
   refine wp_ret ?_
   refine ret_t hF rfl rfl ?_
   exact ⟨_, rfl, congrArg Value.bool (dec_f (by omega)), (hS.sub [] (by decide) (by first | rfl | simp) (by simp))⟩
 ·first | (replace hc354 := of_decide_eq_false hc354) | (replace hc354 := of_decide_eq_true (bnot_f hc354)) | (subst hc354) | (replace hc354 := bnot_f hc354; subst hc354) | (replace hc354 := bnot_f hc354) | skip
  try (have hc354x := hc354; simp only [okS, okI, okW, okP] at hc354x)
  refine skF hF rfl rfl rfl rfl rfl rfl ?_; clear hF; intro a hF
  refine skF hF rfl rfl rfl rfl rfl rfl ?_; clear hF; intro a hF
  refine seq_yl hF (wn_none rfl) rfl rfl (pkF hF rfl rfl rfl) ?_; clear hF; intro a hF
  refine mvN hF rfl rfl rfl rfl rfl ?_; clear hF; intro a hF
  refine skF hF rfl rfl rfl rfl rfl rfl ?_; clear hF; intro a hF
  refine skF hF rfl rfl rfl rfl rfl rfl ?_; clear hF; intro a hF
  refine skF hF rfl rfl rfl rfl rfl rfl ?_; clear hF; intro a hF
  refine seq_yl hF (wn_none rfl) rfl rfl (pkF hF rfl rfl rfl) ?_; clear hF; intro a hF
  refine mvN hF rfl rfl rfl rfl rfl ?_; clear hF; intro a hF
  refine skF hF rfl rfl rfl rfl rfl rfl ?_; clear hF; intro a hF
  refine skF hF rfl rfl rfl rfl rfl rfl ?_; clear hF; intro a hF
  refine skF hF rfl rfl rfl rfl rfl rfl ?_; clear hF; intro a hF
  refine skF hF rfl rfl rfl rfl rfl rfl ?_; clear hF; intro a hF
  refine skF hF rfl rfl rfl rfl rfl rfl ?_; clear hF; intro a hF
  refine seq_yl hF (wn_none rfl) rfl rfl (pkF hF rfl rfl rfl) ?_; clear hF; intro a hF
  refine asN hF rfl rfl rfl rfl rfl ?_; clear hF; intro a hF
  refine wpList_nil ?_
  refine then_n ?_
  refine wp_ret ?_
  refine ret_t hF rfl rfl ?_
  exact ⟨_, rfl, congrArg Value.bool (dec_f (by omega)), (hS.sub [] (by decide) (by first | rfl | simp) (by simp))⟩

set_option maxRecDepth 100000 in
theorem imRead2_any (im : ByteArray) (s c : Int) (w0 : World) (hz : (im.size : Int) ≤ 9223372036854775807) :
  Fn Try.prog 69 #[.string im, .int .i64 s, .int .i64 c] w0 (fun v w' => ∃ (x : ByteArray) (e : Bool), v = .tuple #[.string x, .bool e] ∧ ((okS (im.size : Int) s c ∧ x = subs im (s * 8) ((s + c) * 8) ∧ e = true) ∨ (¬ okS (im.size : Int) s c ∧ x = ⟨#[]⟩ ∧ e = false)) ∧ Sat w0 w' []) := by
 refine c_enter (N := 32) (l := [_, _, _]) Try.func69 rfl rfl (fun a w hF hS => ?_)
 refine c_seq ?_
 refine c_region ?_
 refine asN hF rfl rfl rfl rfl rfl ?_; clear hF; intro a hF
 refine asN hF rfl rfl rfl rfl rfl ?_; clear hF; intro a hF
 refine wpList_nil ?_
 refine then_n ?_
 refine c_seq ?_
 refine c_seq ?_
 refine c_region ?_
 refine mvN hF rfl rfl rfl rfl rfl ?_; clear hF; intro a hF
 refine seq_wp (wn_none rfl) (wp_call (vs := [_]) hF rfl rfl rfl rfl cf68 (imValid2_any im _) ?_)
 clear hF; rintro _ w ⟨rfl, hS1⟩ a hF
 replace hS := hS.callB hS1 rfl; clear hS1
 refine seq_yl hF (wn_none rfl) rfl rfl (yl_un hF rfl rfl (fun _ => run_not)) ?_; clear hF; intro a hF
 refine mvN hF rfl rfl rfl rfl rfl ?_; clear hF; intro a hF
 refine fr_split hF (fun hc357 hF => ?_) (fun hc357 hF => ?_)
 ·first | (replace hc357 := of_decide_eq_true hc357) | (replace hc357 := of_decide_eq_false (bnot_t hc357)) | (subst hc357) | (replace hc357 := bnot_t hc357; subst hc357) | (replace hc357 := bnot_t hc357) | skip
  try (have hc357x := hc357; simp only [okS, okI, okW, okP] at hc357x)
  refine skF hF rfl rfl rfl rfl rfl rfl ?_; clear hF; intro a hF
  refine skF hF rfl rfl rfl rfl rfl rfl ?_; clear hF; intro a hF
  refine seq_yl hF (wn_none rfl) rfl rfl (pkT hF rfl rfl rfl) ?_; clear hF; intro a hF
  refine mvN hF rfl rfl rfl rfl rfl ?_; clear hF; intro a hF
  refine skF hF rfl rfl rfl rfl rfl rfl ?_; clear hF; intro a hF
  refine skF hF rfl rfl rfl rfl rfl rfl ?_; clear hF; intro a hF
  refine skF hF rfl rfl rfl rfl rfl rfl ?_; clear hF; intro a hF
  refine skF hF rfl rfl rfl rfl rfl rfl ?_; clear hF; intro a hF
  refine skF hF rfl rfl rfl rfl rfl rfl ?_; clear hF; intro a hF
  refine skF hF rfl rfl rfl rfl rfl rfl ?_; clear hF; intro a hF
  refine skF hF rfl rfl rfl rfl rfl rfl ?_; clear hF; intro a hF
  refine seq_yl hF (wn_none rfl) rfl rfl (pkT hF rfl rfl rfl) ?_; clear hF; intro a hF
  refine wpList_nil ?_
  refine then_n ?_
  refine c_cond_t hF rfl ?_
  refine c_seq ?_
  refine c_region ?_
  refine asN hF rfl rfl rfl rfl rfl ?_; clear hF; intro a hF
  refine asN hF rfl rfl rfl rfl rfl ?_; clear hF; intro a hF
  refine wpList_nil ?_
  refine then_n ?_
  refine wp_ret ?_
  refine then_r ?_
  refine ret_tt hF rfl rfl rfl ?_
  exact ⟨_, rfl, _, _, rfl, .inr ⟨by first | assumption | (intro h9; simp only [okW, okS, okI] at h9; omega), rfl, rfl⟩, (hS.sub [] (by decide) (by first | rfl | simp) (by simp))⟩
 ·first | (replace hc357 := of_decide_eq_false hc357) | (replace hc357 := of_decide_eq_true (bnot_f hc357)) | (subst hc357) | (replace hc357 := bnot_f hc357; subst hc357) | (replace hc357 := bnot_f hc357) | skip
  try (have hc357x := hc357; simp only [okS, okI, okW, okP] at hc357x)
  refine seq_yl hF (wn_t hF rfl rfl rfl rfl) rfl rfl (yl_move hF rfl rfl) ?_; clear hF; intro a hF
  refine seq_yl hF (wn_t hF rfl rfl rfl rfl) rfl rfl (yl_bin hF rfl rfl rfl rfl (fun _ => run_lss)) ?_; clear hF; intro a hF
  refine seq_yl hF (wn_none rfl) rfl rfl (pkF hF rfl rfl rfl) ?_; clear hF; intro a hF
  refine mvN hF rfl rfl rfl rfl rfl ?_; clear hF; intro a hF
  refine fr_split hF (fun hc358 hF => ?_) (fun hc358 hF => ?_)
  ·first | (replace hc358 := of_decide_eq_true hc358) | (replace hc358 := of_decide_eq_false (bnot_t hc358)) | (subst hc358) | (replace hc358 := bnot_t hc358; subst hc358) | (replace hc358 := bnot_t hc358) | skip
   try (have hc358x := hc358; simp only [okS, okI, okW, okP] at hc358x)
   refine skF hF rfl rfl rfl rfl rfl rfl ?_; clear hF; intro a hF
   refine skF hF rfl rfl rfl rfl rfl rfl ?_; clear hF; intro a hF
   refine skF hF rfl rfl rfl rfl rfl rfl ?_; clear hF; intro a hF
   refine skF hF rfl rfl rfl rfl rfl rfl ?_; clear hF; intro a hF
   refine skF hF rfl rfl rfl rfl rfl rfl ?_; clear hF; intro a hF
   refine skF hF rfl rfl rfl rfl rfl rfl ?_; clear hF; intro a hF
   refine skF hF rfl rfl rfl rfl rfl rfl ?_; clear hF; intro a hF
   refine seq_yl hF (wn_none rfl) rfl rfl (pkT hF rfl rfl rfl) ?_; clear hF; intro a hF
   refine wpList_nil ?_
   refine then_n ?_
   refine c_cond_t hF rfl ?_
   refine c_seq ?_
   refine c_region ?_
   refine asN hF rfl rfl rfl rfl rfl ?_; clear hF; intro a hF
   refine asN hF rfl rfl rfl rfl rfl ?_; clear hF; intro a hF
   refine wpList_nil ?_
   refine then_n ?_
   refine wp_ret ?_
   refine then_r ?_
   refine ret_tt hF rfl rfl rfl ?_
   exact ⟨_, rfl, _, _, rfl, .inr ⟨by first | assumption | (intro h9; simp only [okW, okS, okI] at h9; omega), rfl, rfl⟩, (hS.sub [] (by decide) (by first | rfl | simp) (by simp))⟩
  ·first | (replace hc358 := of_decide_eq_false hc358) | (replace hc358 := of_decide_eq_true (bnot_f hc358)) | (subst hc358) | (replace hc358 := bnot_f hc358; subst hc358) | (replace hc358 := bnot_f hc358) | skip
   try (have hc358x := hc358; simp only [okS, okI, okW, okP] at hc358x)
   refine seq_yl hF (wn_t hF rfl rfl rfl rfl) rfl rfl (yl_move hF rfl rfl) ?_; clear hF; intro a hF
   refine seq_yl hF (wn_t hF rfl rfl rfl rfl) rfl rfl (yl_move hF rfl rfl) ?_; clear hF; intro a hF
   refine seq_yl hF (wn_t hF rfl rfl rfl rfl) rfl rfl (yl_move hF rfl rfl) ?_; clear hF; intro a hF
   refine seq_yl hF (wn_t hF rfl rfl rfl rfl) rfl rfl (yl_len hF rfl rfl (fun _ => run_lenStr Try.underlying9)) ?_; clear hF; intro a hF
   refine seq_yl hF (wn_t hF rfl rfl rfl rfl) rfl rfl (yl_bin hF rfl rfl rfl rfl (fun _ => run_quoN (by omega) (by omega) (by omega))) ?_; clear hF; intro a hF
   refine seq_wp (wn_t hF rfl rfl rfl rfl) (wp_call (vs := [_, _, _]) hF rfl rfl rfl rfl cf46 (in_any (s) (c) (((((im).size : Nat) : Int) / (8 : Int))) _ (by omega)) ?_)
   clear hF; rintro _ w ⟨rfl, hS1⟩ a hF
   replace hS := hS.callB hS1 rfl; clear hS1
   refine seq_yl hF (wn_t hF rfl rfl rfl rfl) rfl rfl (yl_un hF rfl rfl (fun _ => run_not)) ?_; clear hF; intro a hF
   refine seq_yl hF (wn_none rfl) rfl rfl (pkF hF rfl rfl rfl) ?_; clear hF; intro a hF
   refine wpList_nil ?_
   refine then_n ?_
   refine c_cond hF rfl (fun hc359 => ?_) (fun hc359 => ?_)
   ·first | (replace hc359 := of_decide_eq_true hc359) | (replace hc359 := of_decide_eq_false (bnot_t hc359)) | (subst hc359) | (replace hc359 := bnot_t hc359; subst hc359) | (replace hc359 := bnot_t hc359) | skip
    try (have hc359x := hc359; simp only [okS, okI, okW, okP] at hc359x)
    refine c_seq ?_
    refine c_region ?_
    refine asN hF rfl rfl rfl rfl rfl ?_; clear hF; intro a hF
    refine asN hF rfl rfl rfl rfl rfl ?_; clear hF; intro a hF
    refine wpList_nil ?_
    refine then_n ?_
    refine wp_ret ?_
    refine then_r ?_
    refine ret_tt hF rfl rfl rfl ?_
    exact ⟨_, rfl, _, _, rfl, .inr ⟨by first | assumption | (intro h9; simp only [okW, okS, okI] at h9; omega), rfl, rfl⟩, (hS.sub [] (by decide) (by first | rfl | simp) (by simp))⟩
   ·first | (replace hc359 := of_decide_eq_false hc359) | (replace hc359 := of_decide_eq_true (bnot_f hc359)) | (subst hc359) | (replace hc359 := bnot_f hc359; subst hc359) | (replace hc359 := bnot_f hc359) | skip
    try (have hc359x := hc359; simp only [okS, okI, okW, okP] at hc359x)
    refine wp_skip ?_
    refine then_n ?_
    refine c_seq ?_
    refine c_region ?_
    refine mvN hF rfl rfl rfl rfl rfl ?_; clear hF; intro a hF
    refine mvN hF rfl rfl rfl rfl rfl ?_; clear hF; intro a hF
    refine seq_yl hF (wn_none rfl) rfl rfl (yl_bin hF rfl rfl rfl rfl (fun _ => run_mul (by refine ⟨?_, ?_⟩ <;> omega))) ?_; clear hF; intro a hF
    refine mvN hF rfl rfl rfl rfl rfl ?_; clear hF; intro a hF
    refine mvN hF rfl rfl rfl rfl rfl ?_; clear hF; intro a hF
    refine seq_yl hF (wn_none rfl) rfl rfl (yl_bin hF rfl rfl rfl rfl (fun _ => run_add (by refine ⟨?_, ?_⟩ <;> omega))) ?_; clear hF; intro a hF
    refine seq_yl hF (wn_none rfl) rfl rfl (yl_bin hF rfl rfl rfl rfl (fun _ => run_mul (by refine ⟨?_, ?_⟩ <;> omega))) ?_; clear hF; intro a hF
    have hz360 := subs_size (s := im) (i := (((s) * (8 : Int)))) (j := (((((s) + (c))) * (8 : Int)))) (by omega) (by omega) (by omega)
    refine seq_yl hF (wn_none rfl) rfl rfl (yl_subsLH (s := im) (i := (((s) * (8 : Int)))) (j := (((((s) + (c))) * (8 : Int)))) hF rfl rfl rfl rfl Try.underlying9 (by omega) (by omega) (by omega)) ?_; clear hF; intro a hF
    refine asN hF rfl rfl rfl rfl rfl ?_; clear hF; intro a hF
    refine asN hF rfl rfl rfl rfl rfl ?_; clear hF; intro a hF
    refine wpList_nil ?_
    refine then_n ?_
    refine wp_ret ?_
    refine ret_tt hF rfl rfl rfl ?_
    exact ⟨_, rfl, _, _, rfl, .inl ⟨by first | assumption | (unfold okW okS okI; omega) | (unfold okS okI; omega) | (unfold okI; omega), rfl, rfl⟩, (hS.sub [] (by decide) (by first | rfl | simp) (by simp))⟩

set_option maxRecDepth 100000 in
theorem imWrite_any (im : ByteArray) (s : Int) (d : ByteArray) (w0 : World) (hz : (im.size : Int) ≤ 9223372036854775807) (hd : (d.size : Int) ≤ 9223372036854775807) :
  Fn Try.prog 85 #[.string im, .int .i64 s, .string d] w0 (fun v w' => ∃ (x : ByteArray) (e : Bool), v = .tuple #[.string x, .bool e] ∧ ((okW (im.size : Int) s (d.size : Int) ∧ x = wim im s d ∧ e = true) ∨ (¬ okW (im.size : Int) s (d.size : Int) ∧ x = ⟨#[]⟩ ∧ e = false)) ∧ Sat w0 w' []) := by
 refine c_enter (N := 38) (l := [_, _, _]) Try.func85 rfl rfl (fun a w hF hS => ?_)
 refine c_seq ?_
 refine c_region ?_
 refine asN hF rfl rfl rfl rfl rfl ?_; clear hF; intro a hF
 refine asN hF rfl rfl rfl rfl rfl ?_; clear hF; intro a hF
 refine wpList_nil ?_
 refine then_n ?_
 refine c_seq ?_
 refine c_region ?_
 refine mvN hF rfl rfl rfl rfl rfl ?_; clear hF; intro a hF
 refine mvN hF rfl rfl rfl rfl rfl ?_; clear hF; intro a hF
 refine mvN hF rfl rfl rfl rfl rfl ?_; clear hF; intro a hF
 refine seq_yl hF (wn_none rfl) rfl rfl (yl_len hF rfl rfl (fun _ => run_lenStr Try.underlying9)) ?_; clear hF; intro a hF
 refine seq_yl hF (wn_none rfl) rfl rfl (yl_bin hF rfl rfl rfl rfl (fun _ => run_quoN (by omega) (by omega) (by omega))) ?_; clear hF; intro a hF
 refine seq_wp (wn_none rfl) (wp_call (vs := [_, _, _]) hF rfl rfl rfl rfl cf83 (span_any im (s) (((((d).size : Nat) : Int) / (8 : Int))) _ (by omega)) ?_)
 clear hF; rintro _ w ⟨a361, b362, e363, rfl, hsp364, hS1⟩ a hF
 replace hS := hS.callB hS1 rfl; clear hS1
 rcases hsp364 with ⟨hk365, rfl, rfl, rfl⟩ | ⟨hk365, rfl, rfl, rfl⟩ <;> (try (have hk365x := hk365; simp only [okS, okI, okW, okP] at hk365x))
 ·skip
  refine mvN hF rfl rfl rfl rfl rfl ?_; clear hF; intro a hF
  refine seq_yl hF (wn_none rfl) rfl rfl (yl_extract hF rfl rfl rfl) ?_; clear hF; intro a hF
  refine seq_yl hF (wn_none rfl) rfl rfl (yl_extract hF rfl rfl rfl) ?_; clear hF; intro a hF
  refine seq_yl hF (wn_none rfl) rfl rfl (yl_extract hF rfl rfl rfl) ?_; clear hF; intro a hF
  refine asN hF rfl rfl rfl rfl rfl ?_; clear hF; intro a hF
  refine asN hF rfl rfl rfl rfl rfl ?_; clear hF; intro a hF
  refine asN hF rfl rfl rfl rfl rfl ?_; clear hF; intro a hF
  refine wpList_nil ?_
  refine then_n ?_
  refine c_seq ?_
  refine c_seq ?_
  refine c_region ?_
  refine mvN hF rfl rfl rfl rfl rfl ?_; clear hF; intro a hF
  refine seq_yl hF (wn_none rfl) rfl rfl (yl_un hF rfl rfl (fun _ => run_not)) ?_; clear hF; intro a hF
  refine mvN hF rfl rfl rfl rfl rfl ?_; clear hF; intro a hF
  refine seq_yl hF (wn_t hF rfl rfl rfl rfl) rfl rfl (yl_move hF rfl rfl) ?_; clear hF; intro a hF
  refine seq_yl hF (wn_t hF rfl rfl rfl rfl) rfl rfl (yl_len hF rfl rfl (fun _ => run_lenStr Try.underlying9)) ?_; clear hF; intro a hF
  refine seq_yl hF (wn_t hF rfl rfl rfl rfl) rfl rfl (yl_bin hF rfl rfl rfl rfl (fun _ => run_remN (by omega) (by omega))) ?_; clear hF; intro a hF
  refine seq_yl hF (wn_t hF rfl rfl rfl rfl) rfl rfl (yl_bin hF rfl rfl rfl rfl (fun _ => run_neq)) ?_; clear hF; intro a hF
  refine seq_yl hF (wn_none rfl) rfl rfl (pkF hF rfl rfl rfl) ?_; clear hF; intro a hF
  refine wpList_nil ?_
  refine then_n ?_
  refine c_cond hF rfl (fun hc366 => ?_) (fun hc366 => ?_)
  ·first | (replace hc366 := of_decide_eq_true hc366) | (replace hc366 := of_decide_eq_false (bnot_t hc366)) | (subst hc366) | (replace hc366 := bnot_t hc366; subst hc366) | (replace hc366 := bnot_t hc366) | skip
   try (have hc366x := hc366; simp only [okS, okI, okW, okP] at hc366x)
   refine c_seq ?_
   refine c_region ?_
   refine asN hF rfl rfl rfl rfl rfl ?_; clear hF; intro a hF
   refine asN hF rfl rfl rfl rfl rfl ?_; clear hF; intro a hF
   refine wpList_nil ?_
   refine then_n ?_
   refine wp_ret ?_
   refine then_r ?_
   refine ret_tt hF rfl rfl rfl ?_
   exact ⟨_, rfl, _, _, rfl, .inr ⟨fun h9 => by simp only [okW, okS, okI] at h9; omega, rfl, rfl⟩, (hS.sub [] (by decide) (by first | rfl | simp) (by simp))⟩
  ·first | (replace hc366 := of_decide_eq_false hc366) | (replace hc366 := of_decide_eq_true (bnot_f hc366)) | (subst hc366) | (replace hc366 := bnot_f hc366; subst hc366) | (replace hc366 := bnot_f hc366) | skip
   try (have hc366x := hc366; simp only [okS, okI, okW, okP] at hc366x)
   refine wp_skip ?_
   refine then_n ?_
   refine c_seq ?_
   refine ha_startS hS [] 11 (by kernel_rfl) ?_; clear hS; intro w hS
   have hSS := hS.sub [] (by decide) rfl (by simp)
   refine ha_y 0 hF rfl rfl rfl (wn_none rfl) (.inr hSS) (yl_move hF rfl rfl) ?_; clear hF; intro a hF
   refine ha_y 1 hF rfl rfl rfl (wn_none rfl) (.inr hSS) (yl_move hF rfl rfl) ?_; clear hF; intro a hF
   have hz367 := subs_size (s := im) (i := 0) (j := (((s) * 8))) (by omega) (by omega) (by omega)
   refine ha_y 2 hF rfl rfl rfl (wn_none rfl) (.inr hSS) (yl_subsH (s := im) (j := (((s) * 8))) hF rfl rfl rfl Try.underlying9 (by omega) (by omega)) ?_; clear hF; intro a hF
   refine ha_y 3 hF rfl rfl rfl (wn_none rfl) (.inr hSS) (yl_move hF rfl rfl) ?_; clear hF; intro a hF
   have hz368 := cat_size (subs im 0 (((s) * 8))) d
   refine ha_y 4 hF rfl rfl rfl (wn_none rfl) (.inr hSS) (yl_bin hF rfl rfl rfl rfl (fun _ => run_catS (x := (subs im 0 (((s) * 8)))) (y := d) (by omega))) ?_; clear hF; intro a hF
   refine ha_y 5 hF rfl rfl rfl (wn_none rfl) (.inr hSS) (yl_move hF rfl rfl) ?_; clear hF; intro a hF
   refine ha_y 6 hF rfl rfl rfl (wn_none rfl) (.inr hSS) (yl_move hF rfl rfl) ?_; clear hF; intro a hF
   have hz369 := subs_size (s := im) (i := ((((s) + (((((d).size : Nat) : Int) / (8 : Int)))) * 8))) (j := ((im).size : Int)) (by omega) (by omega) (by omega)
   refine ha_y 7 hF rfl rfl rfl (wn_none rfl) (.inr hSS) (yl_subsL (s := im) (i := ((((s) + (((((d).size : Nat) : Int) / (8 : Int)))) * 8))) hF rfl rfl rfl Try.underlying9 (by omega) (by omega)) ?_; clear hF; intro a hF
   have hz370 := cat_size ((subs im 0 (((s) * 8))) ++ d) (subs im ((((s) + (((((d).size : Nat) : Int) / (8 : Int)))) * 8)) ((im).size : Int))
   refine ha_y 8 hF rfl rfl rfl (wn_none rfl) (.inr hSS) (yl_bin hF rfl rfl rfl rfl (fun _ => run_catS (x := ((subs im 0 (((s) * 8))) ++ d)) (y := (subs im ((((s) + (((((d).size : Nat) : Int) / (8 : Int)))) * 8)) ((im).size : Int))) (by omega))) ?_; clear hF; intro a hF
   refine ha_y 9 hF rfl rfl rfl (wn_none rfl) (.inr hSS) (yl_assign hF rfl rfl) ?_; clear hF; intro a hF
   refine ha_y 10 hF rfl rfl rfl (wn_none rfl) (.inr hSS) (yl_assign hF rfl rfl) ?_; clear hF; intro a hF
   refine ha_done (by kernel_rfl) ?_ _
   refine then_n ?_
   refine wp_ret ?_
   refine ret_tt hF rfl rfl rfl ?_
   exact ⟨_, rfl, _, _, rfl, .inl ⟨by first | assumption | (unfold okW okS okI; omega) | (unfold okS okI; omega) | (unfold okI; omega), by unfold wim; rw [show (s + (d.size : Int) / 8) * 8 = s * 8 + (d.size : Int) from by omega], rfl⟩, (hS.sub [] (by decide) (by first | rfl | simp) (by simp))⟩
 ·skip
  refine mvN hF rfl rfl rfl rfl rfl ?_; clear hF; intro a hF
  refine seq_yl hF (wn_none rfl) rfl rfl (yl_extract hF rfl rfl rfl) ?_; clear hF; intro a hF
  refine seq_yl hF (wn_none rfl) rfl rfl (yl_extract hF rfl rfl rfl) ?_; clear hF; intro a hF
  refine seq_yl hF (wn_none rfl) rfl rfl (yl_extract hF rfl rfl rfl) ?_; clear hF; intro a hF
  refine asN hF rfl rfl rfl rfl rfl ?_; clear hF; intro a hF
  refine asN hF rfl rfl rfl rfl rfl ?_; clear hF; intro a hF
  refine asN hF rfl rfl rfl rfl rfl ?_; clear hF; intro a hF
  refine wpList_nil ?_
  refine then_n ?_
  refine c_seq ?_
  refine c_seq ?_
  refine c_region ?_
  refine mvN hF rfl rfl rfl rfl rfl ?_; clear hF; intro a hF
  refine seq_yl hF (wn_none rfl) rfl rfl (yl_un hF rfl rfl (fun _ => run_not)) ?_; clear hF; intro a hF
  refine mvN hF rfl rfl rfl rfl rfl ?_; clear hF; intro a hF
  refine skF hF rfl rfl rfl rfl rfl rfl ?_; clear hF; intro a hF
  refine skF hF rfl rfl rfl rfl rfl rfl ?_; clear hF; intro a hF
  refine skF hF rfl rfl rfl rfl rfl rfl ?_; clear hF; intro a hF
  refine skF hF rfl rfl rfl rfl rfl rfl ?_; clear hF; intro a hF
  refine seq_yl hF (wn_none rfl) rfl rfl (pkT hF rfl rfl rfl) ?_; clear hF; intro a hF
  refine wpList_nil ?_
  refine then_n ?_
  refine c_cond_t hF rfl ?_
  refine c_seq ?_
  refine c_region ?_
  refine asN hF rfl rfl rfl rfl rfl ?_; clear hF; intro a hF
  refine asN hF rfl rfl rfl rfl rfl ?_; clear hF; intro a hF
  refine wpList_nil ?_
  refine then_n ?_
  refine wp_ret ?_
  refine then_r ?_
  refine ret_tt hF rfl rfl rfl ?_
  exact ⟨_, rfl, _, _, rfl, .inr ⟨fun h9 => by simp only [okW, okS, okI] at h9; omega, rfl, rfl⟩, (hS.sub [] (by decide) (by first | rfl | simp) (by simp))⟩

set_option maxRecDepth 100000 in
theorem whole_any (d : ByteArray) (w0 : World) :
  Fn Try.prog 70 #[.string d] w0 (fun v w' => v = .bool (decide (0 < (d.size : Int) ∧ (d.size : Int) % 8 = 0)) ∧ Sat w0 w' []) := by
 refine c_enter (N := 12) (l := [_]) Try.func70 rfl rfl (fun a w hF hS => ?_)
 refine c_seq ?_
 refine c_region ?_
 refine asN hF rfl rfl rfl rfl rfl ?_; clear hF; intro a hF
 refine wpList_nil ?_
 refine then_n ?_
 refine c_seq ?_
 refine c_region ?_
 refine mvN hF rfl rfl rfl rfl rfl ?_; clear hF; intro a hF
 refine seq_yl hF (wn_none rfl) rfl rfl (yl_len hF rfl rfl (fun _ => run_lenStr Try.underlying9)) ?_; clear hF; intro a hF
 refine seq_yl hF (wn_none rfl) rfl rfl (yl_bin hF rfl rfl rfl rfl (fun _ => run_gtr)) ?_; clear hF; intro a hF
 refine mvN hF rfl rfl rfl rfl rfl ?_; clear hF; intro a hF
 refine fr_split hF (fun hc371 hF => ?_) (fun hc371 hF => ?_)
 ·first | (replace hc371 := of_decide_eq_true hc371) | (replace hc371 := of_decide_eq_false (bnot_t hc371)) | (subst hc371) | (replace hc371 := bnot_t hc371; subst hc371) | (replace hc371 := bnot_t hc371) | skip
  try (have hc371x := hc371; simp only [okS, okI, okW, okP] at hc371x)
  refine seq_yl hF (wn_t hF rfl rfl rfl rfl) rfl rfl (yl_move hF rfl rfl) ?_; clear hF; intro a hF
  refine seq_yl hF (wn_t hF rfl rfl rfl rfl) rfl rfl (yl_len hF rfl rfl (fun _ => run_lenStr Try.underlying9)) ?_; clear hF; intro a hF
  refine seq_yl hF (wn_t hF rfl rfl rfl rfl) rfl rfl (yl_bin hF rfl rfl rfl rfl (fun _ => run_remN (by omega) (by omega))) ?_; clear hF; intro a hF
  refine seq_yl hF (wn_t hF rfl rfl rfl rfl) rfl rfl (yl_bin hF rfl rfl rfl rfl (fun _ => run_eql)) ?_; clear hF; intro a hF
  refine seq_yl hF (wn_none rfl) rfl rfl (pkT hF rfl rfl rfl) ?_; clear hF; intro a hF
  refine asN hF rfl rfl rfl rfl rfl ?_; clear hF; intro a hF
  refine wpList_nil ?_
  refine then_n ?_
  refine wp_ret ?_
  refine ret_t hF rfl rfl ?_
  exact ⟨_, rfl, congrArg Value.bool (dec_d (by constructor <;> intro _ <;> omega)), (hS.sub [] (by decide) (by first | rfl | simp) (by simp))⟩
 ·first | (replace hc371 := of_decide_eq_false hc371) | (replace hc371 := of_decide_eq_true (bnot_f hc371)) | (subst hc371) | (replace hc371 := bnot_f hc371; subst hc371) | (replace hc371 := bnot_f hc371) | skip
  try (have hc371x := hc371; simp only [okS, okI, okW, okP] at hc371x)
  refine skF hF rfl rfl rfl rfl rfl rfl ?_; clear hF; intro a hF
  refine skF hF rfl rfl rfl rfl rfl rfl ?_; clear hF; intro a hF
  refine skF hF rfl rfl rfl rfl rfl rfl ?_; clear hF; intro a hF
  refine skF hF rfl rfl rfl rfl rfl rfl ?_; clear hF; intro a hF
  refine seq_yl hF (wn_none rfl) rfl rfl (pkF hF rfl rfl rfl) ?_; clear hF; intro a hF
  refine asN hF rfl rfl rfl rfl rfl ?_; clear hF; intro a hF
  refine wpList_nil ?_
  refine then_n ?_
  refine wp_ret ?_
  refine ret_t hF rfl rfl ?_
  exact ⟨_, rfl, congrArg Value.bool (dec_f (by omega)), (hS.sub [] (by decide) (by first | rfl | simp) (by simp))⟩

set_option maxRecDepth 100000 in
theorem imWrite2_any (im : ByteArray) (s : Int) (d : ByteArray) (w0 : World) (hz : (im.size : Int) ≤ 9223372036854775807) (hd : (d.size : Int) ≤ 9223372036854775807) :
  Fn Try.prog 71 #[.string im, .int .i64 s, .string d] w0 (fun v w' => ∃ (x : ByteArray) (e : Bool), v = .tuple #[.string x, .bool e] ∧ ((okW (im.size : Int) s (d.size : Int) ∧ x = wim im s d ∧ e = true) ∨ (¬ okW (im.size : Int) s (d.size : Int) ∧ x = ⟨#[]⟩ ∧ e = false)) ∧ Sat w0 w' []) := by
 refine c_enter (N := 42) (l := [_, _, _]) Try.func71 rfl rfl (fun a w hF hS => ?_)
 refine c_seq ?_
 refine c_region ?_
 refine asN hF rfl rfl rfl rfl rfl ?_; clear hF; intro a hF
 refine asN hF rfl rfl rfl rfl rfl ?_; clear hF; intro a hF
 refine wpList_nil ?_
 refine then_n ?_
 refine c_seq ?_
 refine c_seq ?_
 refine c_region ?_
 refine mvN hF rfl rfl rfl rfl rfl ?_; clear hF; intro a hF
 refine seq_wp (wn_none rfl) (wp_call (vs := [_]) hF rfl rfl rfl rfl cf68 (imValid2_any im _) ?_)
 clear hF; rintro _ w ⟨rfl, hS1⟩ a hF
 replace hS := hS.callB hS1 rfl; clear hS1
 refine seq_yl hF (wn_none rfl) rfl rfl (yl_un hF rfl rfl (fun _ => run_not)) ?_; clear hF; intro a hF
 refine mvN hF rfl rfl rfl rfl rfl ?_; clear hF; intro a hF
 refine fr_split hF (fun hc372 hF => ?_) (fun hc372 hF => ?_)
 ·first | (replace hc372 := of_decide_eq_true hc372) | (replace hc372 := of_decide_eq_false (bnot_t hc372)) | (subst hc372) | (replace hc372 := bnot_t hc372; subst hc372) | (replace hc372 := bnot_t hc372) | skip
  try (have hc372x := hc372; simp only [okS, okI, okW, okP] at hc372x)
  refine skF hF rfl rfl rfl rfl rfl rfl ?_; clear hF; intro a hF
  refine skF hF rfl rfl rfl rfl rfl rfl ?_; clear hF; intro a hF
  refine skF hF rfl rfl rfl rfl rfl rfl ?_; clear hF; intro a hF
  refine seq_yl hF (wn_none rfl) rfl rfl (pkT hF rfl rfl rfl) ?_; clear hF; intro a hF
  refine mvN hF rfl rfl rfl rfl rfl ?_; clear hF; intro a hF
  refine skF hF rfl rfl rfl rfl rfl rfl ?_; clear hF; intro a hF
  refine skF hF rfl rfl rfl rfl rfl rfl ?_; clear hF; intro a hF
  refine skF hF rfl rfl rfl rfl rfl rfl ?_; clear hF; intro a hF
  refine skF hF rfl rfl rfl rfl rfl rfl ?_; clear hF; intro a hF
  refine skF hF rfl rfl rfl rfl rfl rfl ?_; clear hF; intro a hF
  refine skF hF rfl rfl rfl rfl rfl rfl ?_; clear hF; intro a hF
  refine skF hF rfl rfl rfl rfl rfl rfl ?_; clear hF; intro a hF
  refine skF hF rfl rfl rfl rfl rfl rfl ?_; clear hF; intro a hF
  refine skF hF rfl rfl rfl rfl rfl rfl ?_; clear hF; intro a hF
  refine seq_yl hF (wn_none rfl) rfl rfl (pkT hF rfl rfl rfl) ?_; clear hF; intro a hF
  refine wpList_nil ?_
  refine then_n ?_
  refine c_cond_t hF rfl ?_
  refine c_seq ?_
  refine c_region ?_
  refine asN hF rfl rfl rfl rfl rfl ?_; clear hF; intro a hF
  refine asN hF rfl rfl rfl rfl rfl ?_; clear hF; intro a hF
  refine wpList_nil ?_
  refine then_n ?_
  refine wp_ret ?_
  refine then_r ?_
  refine ret_tt hF rfl rfl rfl ?_
  exact ⟨_, rfl, _, _, rfl, .inr ⟨fun h9 => by simp only [okW, okS, okI] at h9; omega, rfl, rfl⟩, (hS.sub [] (by decide) (by first | rfl | simp) (by simp))⟩
 ·first | (replace hc372 := of_decide_eq_false hc372) | (replace hc372 := of_decide_eq_true (bnot_f hc372)) | (subst hc372) | (replace hc372 := bnot_f hc372; subst hc372) | (replace hc372 := bnot_f hc372) | skip
  try (have hc372x := hc372; simp only [okS, okI, okW, okP] at hc372x)
  refine seq_yl hF (wn_t hF rfl rfl rfl rfl) rfl rfl (yl_move hF rfl rfl) ?_; clear hF; intro a hF
  refine seq_wp (wn_t hF rfl rfl rfl rfl) (wp_call (vs := [_]) hF rfl rfl rfl rfl cf70 (whole_any d _) ?_)
  clear hF; rintro _ w ⟨rfl, hS1⟩ a hF
  replace hS := hS.callB hS1 rfl; clear hS1
  refine seq_yl hF (wn_t hF rfl rfl rfl rfl) rfl rfl (yl_un hF rfl rfl (fun _ => run_not)) ?_; clear hF; intro a hF
  refine seq_yl hF (wn_none rfl) rfl rfl (pkF hF rfl rfl rfl) ?_; clear hF; intro a hF
  refine mvN hF rfl rfl rfl rfl rfl ?_; clear hF; intro a hF
  refine fr_split hF (fun hc373 hF => ?_) (fun hc373 hF => ?_)
  ·first | (replace hc373 := of_decide_eq_true hc373) | (replace hc373 := of_decide_eq_false (bnot_t hc373)) | (subst hc373) | (replace hc373 := bnot_t hc373; subst hc373) | (replace hc373 := bnot_t hc373) | skip
   try (have hc373x := hc373; simp only [okS, okI, okW, okP] at hc373x)
   refine skF hF rfl rfl rfl rfl rfl rfl ?_; clear hF; intro a hF
   refine skF hF rfl rfl rfl rfl rfl rfl ?_; clear hF; intro a hF
   refine skF hF rfl rfl rfl rfl rfl rfl ?_; clear hF; intro a hF
   refine skF hF rfl rfl rfl rfl rfl rfl ?_; clear hF; intro a hF
   refine skF hF rfl rfl rfl rfl rfl rfl ?_; clear hF; intro a hF
   refine skF hF rfl rfl rfl rfl rfl rfl ?_; clear hF; intro a hF
   refine skF hF rfl rfl rfl rfl rfl rfl ?_; clear hF; intro a hF
   refine skF hF rfl rfl rfl rfl rfl rfl ?_; clear hF; intro a hF
   refine skF hF rfl rfl rfl rfl rfl rfl ?_; clear hF; intro a hF
   refine seq_yl hF (wn_none rfl) rfl rfl (pkT hF rfl rfl rfl) ?_; clear hF; intro a hF
   refine wpList_nil ?_
   refine then_n ?_
   refine c_cond_t hF rfl ?_
   refine c_seq ?_
   refine c_region ?_
   refine asN hF rfl rfl rfl rfl rfl ?_; clear hF; intro a hF
   refine asN hF rfl rfl rfl rfl rfl ?_; clear hF; intro a hF
   refine wpList_nil ?_
   refine then_n ?_
   refine wp_ret ?_
   refine then_r ?_
   refine ret_tt hF rfl rfl rfl ?_
   exact ⟨_, rfl, _, _, rfl, .inr ⟨fun h9 => by simp only [okW, okS, okI] at h9; omega, rfl, rfl⟩, (hS.sub [] (by decide) (by first | rfl | simp) (by simp))⟩
  ·first | (replace hc373 := of_decide_eq_false hc373) | (replace hc373 := of_decide_eq_true (bnot_f hc373)) | (subst hc373) | (replace hc373 := bnot_f hc373; subst hc373) | (replace hc373 := bnot_f hc373) | skip
   try (have hc373x := hc373; simp only [okS, okI, okW, okP] at hc373x)
   refine seq_yl hF (wn_t hF rfl rfl rfl rfl) rfl rfl (yl_move hF rfl rfl) ?_; clear hF; intro a hF
   refine seq_yl hF (wn_t hF rfl rfl rfl rfl) rfl rfl (yl_move hF rfl rfl) ?_; clear hF; intro a hF
   refine seq_yl hF (wn_t hF rfl rfl rfl rfl) rfl rfl (yl_len hF rfl rfl (fun _ => run_lenStr Try.underlying9)) ?_; clear hF; intro a hF
   refine seq_yl hF (wn_t hF rfl rfl rfl rfl) rfl rfl (yl_bin hF rfl rfl rfl rfl (fun _ => run_quoN (by omega) (by omega) (by omega))) ?_; clear hF; intro a hF
   refine seq_yl hF (wn_t hF rfl rfl rfl rfl) rfl rfl (yl_move hF rfl rfl) ?_; clear hF; intro a hF
   refine seq_yl hF (wn_t hF rfl rfl rfl rfl) rfl rfl (yl_len hF rfl rfl (fun _ => run_lenStr Try.underlying9)) ?_; clear hF; intro a hF
   refine seq_yl hF (wn_t hF rfl rfl rfl rfl) rfl rfl (yl_bin hF rfl rfl rfl rfl (fun _ => run_quoN (by omega) (by omega) (by omega))) ?_; clear hF; intro a hF
   refine seq_wp (wn_t hF rfl rfl rfl rfl) (wp_call (vs := [_, _, _]) hF rfl rfl rfl rfl cf46 (in_any (s) (((((d).size : Nat) : Int) / (8 : Int))) (((((im).size : Nat) : Int) / (8 : Int))) _ (by omega)) ?_)
   clear hF; rintro _ w ⟨rfl, hS1⟩ a hF
   replace hS := hS.callB hS1 rfl; clear hS1
   refine seq_yl hF (wn_t hF rfl rfl rfl rfl) rfl rfl (yl_un hF rfl rfl (fun _ => run_not)) ?_; clear hF; intro a hF
   refine seq_yl hF (wn_none rfl) rfl rfl (pkF hF rfl rfl rfl) ?_; clear hF; intro a hF
   refine wpList_nil ?_
   refine then_n ?_
   refine c_cond hF rfl (fun hc374 => ?_) (fun hc374 => ?_)
   ·first | (replace hc374 := of_decide_eq_true hc374) | (replace hc374 := of_decide_eq_false (bnot_t hc374)) | (subst hc374) | (replace hc374 := bnot_t hc374; subst hc374) | (replace hc374 := bnot_t hc374) | skip
    try (have hc374x := hc374; simp only [okS, okI, okW, okP] at hc374x)
    refine c_seq ?_
    refine c_region ?_
    refine asN hF rfl rfl rfl rfl rfl ?_; clear hF; intro a hF
    refine asN hF rfl rfl rfl rfl rfl ?_; clear hF; intro a hF
    refine wpList_nil ?_
    refine then_n ?_
    refine wp_ret ?_
    refine then_r ?_
    refine ret_tt hF rfl rfl rfl ?_
    exact ⟨_, rfl, _, _, rfl, .inr ⟨fun h9 => by simp only [okW, okS, okI] at h9; omega, rfl, rfl⟩, (hS.sub [] (by decide) (by first | rfl | simp) (by simp))⟩
   ·first | (replace hc374 := of_decide_eq_false hc374) | (replace hc374 := of_decide_eq_true (bnot_f hc374)) | (subst hc374) | (replace hc374 := bnot_f hc374; subst hc374) | (replace hc374 := bnot_f hc374) | skip
    try (have hc374x := hc374; simp only [okS, okI, okW, okP] at hc374x)
    refine wp_skip ?_
    refine then_n ?_
    refine c_seq ?_
    refine c_region ?_
    refine mvN hF rfl rfl rfl rfl rfl ?_; clear hF; intro a hF
    refine seq_yl hF (wn_none rfl) rfl rfl (yl_bin hF rfl rfl rfl rfl (fun _ => run_mul (by refine ⟨?_, ?_⟩ <;> omega))) ?_; clear hF; intro a hF
    refine asN hF rfl rfl rfl rfl rfl ?_; clear hF; intro a hF
    refine wpList_nil ?_
    refine then_n ?_
    refine c_seq ?_
    refine ha_startS hS [] 14 (by kernel_rfl) ?_; clear hS; intro w hS
    have hSS := hS.sub [] (by decide) rfl (by simp)
    refine ha_y 0 hF rfl rfl rfl (wn_none rfl) (.inr hSS) (yl_move hF rfl rfl) ?_; clear hF; intro a hF
    refine ha_y 1 hF rfl rfl rfl (wn_none rfl) (.inr hSS) (yl_move hF rfl rfl) ?_; clear hF; intro a hF
    have hz375 := subs_size (s := im) (i := 0) (j := (((s) * (8 : Int)))) (by omega) (by omega) (by omega)
    refine ha_y 2 hF rfl rfl rfl (wn_none rfl) (.inr hSS) (yl_subsH (s := im) (j := (((s) * (8 : Int)))) hF rfl rfl rfl Try.underlying9 (by omega) (by omega)) ?_; clear hF; intro a hF
    refine ha_y 3 hF rfl rfl rfl (wn_none rfl) (.inr hSS) (yl_move hF rfl rfl) ?_; clear hF; intro a hF
    have hz376 := cat_size (subs im 0 (((s) * (8 : Int)))) d
    refine ha_y 4 hF rfl rfl rfl (wn_none rfl) (.inr hSS) (yl_bin hF rfl rfl rfl rfl (fun _ => run_catS (x := (subs im 0 (((s) * (8 : Int))))) (y := d) (by omega))) ?_; clear hF; intro a hF
    refine ha_y 5 hF rfl rfl rfl (wn_none rfl) (.inr hSS) (yl_move hF rfl rfl) ?_; clear hF; intro a hF
    refine ha_y 6 hF rfl rfl rfl (wn_none rfl) (.inr hSS) (yl_move hF rfl rfl) ?_; clear hF; intro a hF
    refine ha_y 7 hF rfl rfl rfl (wn_none rfl) (.inr hSS) (yl_move hF rfl rfl) ?_; clear hF; intro a hF
    refine ha_y 8 hF rfl rfl rfl (wn_none rfl) (.inr hSS) (yl_len hF rfl rfl (fun _ => run_lenStr Try.underlying9)) ?_; clear hF; intro a hF
    refine ha_y 9 hF rfl rfl rfl (wn_none rfl) (.inr hSS) (yl_bin hF rfl rfl rfl rfl (fun _ => run_add (by refine ⟨?_, ?_⟩ <;> omega))) ?_; clear hF; intro a hF
    have hz377 := subs_size (s := im) (i := (((((s) * (8 : Int))) + (((d).size : Nat) : Int)))) (j := ((im).size : Int)) (by omega) (by omega) (by omega)
    refine ha_y 10 hF rfl rfl rfl (wn_none rfl) (.inr hSS) (yl_subsL (s := im) (i := (((((s) * (8 : Int))) + (((d).size : Nat) : Int)))) hF rfl rfl rfl Try.underlying9 (by omega) (by omega)) ?_; clear hF; intro a hF
    have hz378 := cat_size ((subs im 0 (((s) * (8 : Int)))) ++ d) (subs im (((((s) * (8 : Int))) + (((d).size : Nat) : Int))) ((im).size : Int))
    refine ha_y 11 hF rfl rfl rfl (wn_none rfl) (.inr hSS) (yl_bin hF rfl rfl rfl rfl (fun _ => run_catS (x := ((subs im 0 (((s) * (8 : Int)))) ++ d)) (y := (subs im (((((s) * (8 : Int))) + (((d).size : Nat) : Int))) ((im).size : Int))) (by omega))) ?_; clear hF; intro a hF
    refine ha_y 12 hF rfl rfl rfl (wn_none rfl) (.inr hSS) (yl_assign hF rfl rfl) ?_; clear hF; intro a hF
    refine ha_y 13 hF rfl rfl rfl (wn_none rfl) (.inr hSS) (yl_assign hF rfl rfl) ?_; clear hF; intro a hF
    refine ha_done (by kernel_rfl) ?_ _
    refine then_n ?_
    refine wp_ret ?_
    refine ret_tt hF rfl rfl rfl ?_
    exact ⟨_, rfl, _, _, rfl, .inl ⟨by first | assumption | (unfold okW okS okI; omega) | (unfold okS okI; omega) | (unfold okI; omega), by unfold wim; rfl, rfl⟩, (hS.sub [] (by decide) (by first | rfl | simp) (by simp))⟩

set_option maxRecDepth 100000 in
theorem secs_any (st : ByteArray) (lv : Value) (rm : Int) (w0 : World) (hz : (st.size : Int) ≤ 9223372036854775807) :
  Fn Try.prog 30 #[.agg #[.string st, lv, .int .i64 rm]] w0 (fun v w' => v = .int .i64 ((st.size : Int) / 8) ∧ Sat w0 w' []) := by
 refine c_enter (N := 7) (l := [_]) Try.func30 rfl rfl (fun a w hF hS => ?_)
 refine c_seq ?_
 refine c_region ?_
 refine seq_wp (wn_none rfl) (wp_box (cs := #[_, _, _]) hF hS rfl rfl rfl rfl rfl ?_)
 clear hF hS; intro a w g379 hF hS
 refine asN hF rfl rfl rfl rfl rfl ?_; clear hF; intro a hF
 refine wpList_nil ?_
 refine then_n ?_
 refine c_seq ?_
 refine c_region ?_
 refine seq_yl hF (wn_none rfl) rfl rfl (yl_fieldAddr hF rfl rfl (fun w => by kernel_rfl : ∀ w, (Instr.fieldAt 43 (.pointer (some ⟨g379, 0, none⟩)) 0).run Try.prog w = .ok (.pointer (some ⟨g379, 0, none⟩)) w)) ?_; clear hF; intro a hF
 refine seq_yl hF (wn_none rfl) rfl rfl (yl_load (fun _ h => h ▸ hS) hF rfl rfl 0 rfl ag9 rfl) ?_; clear hF; intro a hF
 refine seq_yl hF (wn_none rfl) rfl rfl (yl_len hF rfl rfl (fun _ => run_lenStr Try.underlying9)) ?_; clear hF; intro a hF
 refine seq_yl hF (wn_none rfl) rfl rfl (yl_bin hF rfl rfl rfl rfl (fun _ => run_quoN (by omega) (by omega) (by omega))) ?_; clear hF; intro a hF
 refine asN hF rfl rfl rfl rfl rfl ?_; clear hF; intro a hF
 refine wpList_nil ?_
 refine then_n ?_
 refine wp_ret ?_
 refine ret_t hF rfl rfl ?_
 exact ⟨_, rfl, rfl, (hS.sub [] (by decide) (by first | rfl | simp) (by simp))⟩

set_option maxRecDepth 100000 in
theorem has_any (st : ByteArray) (lv : Value) (rm s c : Int) (w0 : World) (hz : (st.size : Int) ≤ 9223372036854775807) :
  Fn Try.prog 61 #[.agg #[.string st, lv, .int .i64 rm], .int .i64 s, .int .i64 c] w0 (fun v w' => v = .bool (decide (okS (st.size : Int) s c)) ∧ Sat w0 w' []) := by
 refine c_enter (N := 18) (l := [_, _, _]) Try.func61 rfl rfl (fun a w hF hS => ?_)
 refine c_seq ?_
 refine c_region ?_
 refine seq_wp (wn_none rfl) (wp_box (cs := #[_, _, _]) hF hS rfl rfl rfl rfl rfl ?_)
 clear hF hS; intro a w g380 hF hS
 refine asN hF rfl rfl rfl rfl rfl ?_; clear hF; intro a hF
 refine wpList_nil ?_
 refine then_n ?_
 refine c_seq ?_
 refine c_region ?_
 refine seq_yl hF (wn_none rfl) rfl rfl (yl_fieldAddr hF rfl rfl (fun w => by kernel_rfl : ∀ w, (Instr.fieldAt 43 (.pointer (some ⟨g380, 0, none⟩)) 0).run Try.prog w = .ok (.pointer (some ⟨g380, 0, none⟩)) w)) ?_; clear hF; intro a hF
 refine seq_yl hF (wn_none rfl) rfl rfl (yl_load (fun _ h => h ▸ hS) hF rfl rfl 0 rfl ag9 rfl) ?_; clear hF; intro a hF
 refine mvN hF rfl rfl rfl rfl rfl ?_; clear hF; intro a hF
 refine mvN hF rfl rfl rfl rfl rfl ?_; clear hF; intro a hF
 refine seq_wp (wn_none rfl) (wp_call (vs := [_, _, _]) hF rfl rfl rfl rfl cf77 (imRead_any st (s) (c) _ (by omega)) ?_)
 clear hF; rintro _ w ⟨xs381, e382, rfl, hsp383, hS1⟩ a hF
 replace hS := hS.callB hS1 rfl; clear hS1
 have hsp383z := fun h9 : okS ((st).size : Int) (s) (c) => subs_size (s := st) (i := (s) * 8) (j := ((s) + (c)) * 8) (by unfold okS at h9; omega) (by unfold okS at h9; omega) (by unfold okS okI at h9; omega)
 rcases hsp383 with ⟨hk384, rfl, rfl⟩ | ⟨hk384, rfl, rfl⟩ <;> (try (have hk384x := hk384; simp only [okS, okI, okW, okP] at hk384x))
 ·skip
  refine mvN hF rfl rfl rfl rfl rfl ?_; clear hF; intro a hF
  refine seq_yl hF (wn_none rfl) rfl rfl (yl_extract hF rfl rfl rfl) ?_; clear hF; intro a hF
  refine seq_yl hF (wn_none rfl) rfl rfl (yl_extract hF rfl rfl rfl) ?_; clear hF; intro a hF
  refine asN hF rfl rfl rfl rfl rfl ?_; clear hF; intro a hF
  refine asN hF rfl rfl rfl rfl rfl ?_; clear hF; intro a hF
  refine wpList_nil ?_
  refine then_n ?_
  refine c_seq ?_
  refine c_region ?_
  refine mvN hF rfl rfl rfl rfl rfl ?_; clear hF; intro a hF
  refine asN hF rfl rfl rfl rfl rfl ?_; clear hF; intro a hF
  refine wpList_nil ?_
  refine then_n ?_
  refine wp_ret ?_
  refine ret_t hF rfl rfl ?_
  exact ⟨_, rfl, congrArg Value.bool (dec_t (by assumption)), (hS.sub [] (by decide) (by first | rfl | simp) (by simp))⟩
 ·skip
  refine mvN hF rfl rfl rfl rfl rfl ?_; clear hF; intro a hF
  refine seq_yl hF (wn_none rfl) rfl rfl (yl_extract hF rfl rfl rfl) ?_; clear hF; intro a hF
  refine seq_yl hF (wn_none rfl) rfl rfl (yl_extract hF rfl rfl rfl) ?_; clear hF; intro a hF
  refine asN hF rfl rfl rfl rfl rfl ?_; clear hF; intro a hF
  refine asN hF rfl rfl rfl rfl rfl ?_; clear hF; intro a hF
  refine wpList_nil ?_
  refine then_n ?_
  refine c_seq ?_
  refine c_region ?_
  refine mvN hF rfl rfl rfl rfl rfl ?_; clear hF; intro a hF
  refine asN hF rfl rfl rfl rfl rfl ?_; clear hF; intro a hF
  refine wpList_nil ?_
  refine then_n ?_
  refine wp_ret ?_
  refine ret_t hF rfl rfl ?_
  exact ⟨_, rfl, congrArg Value.bool (dec_f (by assumption)), (hS.sub [] (by decide) (by first | rfl | simp) (by simp))⟩

end Go.Proofs.Ytkejcnhfbfgphaa

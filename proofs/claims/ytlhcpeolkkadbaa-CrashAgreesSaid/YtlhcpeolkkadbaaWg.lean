/- walks, printed by wip/gen -/
import Derived.Test.YtlhcpeolkkadbaaF
import Derived.Test.YtlhcpeolkkadbaaPA
namespace Go.Proofs.Ytlhcpeolkkadbaa
open Go.RowKit
set_option linter.unusedVariables false
set_option linter.unusedSimpArgs false

set_option maxRecDepth 100000 in
theorem sindex_any (mv : Value) (M : List ByteArray) (x : ByteArray) (w0 : World) (hm : Rd w0 1 mv (M).length (cells encS (M))) (hM : M.length ≤ 9000000) :
    Fn Try.prog 57 #[mv, .string x] w0 (fun v w' => ∃ r : Int, v = .int .i64 r ∧ ((0 ≤ r ∧ x ∈ M) ∨ (r = -1 ∧ x ∉ M)) ∧ Sat w0 w' []) := by
  obtain ⟨Amv, cmv, rfl⟩ := Rd.form hm
  refine c_enter (N := 19) (l := [_, _]) Try.func57 rfl rfl (fun a w hF hS => ?_)
  replace hS := hS.addRo hm
  refine c_seq ?_
  refine c_region ?_
  refine seq_yl hF (wn_none rfl) rfl rfl (yl_assign hF rfl rfl) ?_
  clear hF; intro a hF
  refine wpList_nil ?_
  refine then_n ?_
  refine c_seq ?_
  refine c_seq ?_
  refine c_region ?_
  refine seq_yl hF (wn_none rfl) rfl rfl (yl_move hF rfl rfl) ?_
  clear hF; intro a hF
  refine seq_yl hF (wn_none rfl) rfl rfl (yl_len hF rfl rfl (fun _ => run_lenRd sl52 (hS.rdRo 0 rfl))) ?_
  clear hF; intro a hF
  refine seq_yl hF (wn_none rfl) rfl rfl (yl_move hF rfl rfl) ?_
  clear hF; intro a hF
  refine wpList_nil ?_
  refine then_n ?_
  refine wp_block ?_
  refine c_loop (fun m a w => ∃ (k : Nat), m = M.length - k ∧ (k ≤ M.length ∧ x ∉ M.take k) ∧ Fr 19 a [(0, .slice Amv (M).length cmv), (1, .string x), (7, .int .i64 (((M).length : Nat) : Int)), (8, .int .i64 ((k : Nat) : Int))] ∧ Sat w0 w (.ro 1 (.slice Amv (M).length cmv) (M).length (cells encS (M)) :: [])) (M.length - 0) ?_ ?_
  · exact ⟨0, rfl, ⟨Nat.zero_le _, by simp⟩, hF.to [0, 1, 7, 8] rfl, (hS.sub [0] (by decide) (by first | rfl | simp) (by simp))⟩
  · clear hF hS; try clear hSS
    clear a w; rintro m a w ⟨k, rfl, hinv, hF, hS⟩
    have hk := hinv.1
    refine c_seq ?_
    refine c_region ?_
    refine seq_yl hF (wn_none rfl) rfl rfl (yl_bin hF rfl rfl rfl rfl (fun _ => run_lss)) ?_
    clear hF; intro a hF
    refine wpList_nil ?_
    refine then_n ?_
    refine c_seq ?_
    refine c_cond hF rfl (fun hc293 => ?_) (fun hc293 => ?_)
    · first | (replace hc293 := of_decide_eq_true hc293) | (replace hc293 := of_decide_eq_false (bnot_t hc293)) | (subst hc293) | (replace hc293 := bnot_t hc293; subst hc293) | (replace hc293 := bnot_t hc293) | skip
      try (have hc293x := hc293; simp only [okS, okI, okW, okP] at hc293x)
      refine wp_skip ?_
      refine then_n ?_
      refine c_seq ?_
      refine wp_block ?_
      refine c_seq ?_
      refine c_region ?_
      refine seq_yl hF (wn_none rfl) rfl rfl (yl_move hF rfl rfl) ?_
      clear hF; intro a hF
      refine seq_yl hF (wn_none rfl) rfl rfl (yl_assign hF rfl rfl) ?_
      clear hF; intro a hF
      refine wpList_nil ?_
      refine then_n ?_
      refine c_seq ?_
      refine c_region ?_
      refine seq_yl hF (wn_none rfl) rfl rfl (yl_move hF rfl rfl) ?_
      clear hF; intro a hF
      refine seq_yl hF (wn_none rfl) rfl rfl (yl_move hF rfl rfl) ?_
      clear hF; intro a hF
      refine seq_yl hF (wn_none rfl) rfl rfl (yl_move hF rfl rfl) ?_
      clear hF; intro a hF
      have hlt_hx294 : k < (M).length := by first | omega | (simp; done) | (simp; omega)
      obtain ⟨ad295, rfl⟩ := rd_some (hS.rdRo 0 rfl) hlt_hx294
      obtain ⟨x294, hx294⟩ := get_some hlt_hx294
      refine seq_yl hF (wn_none rfl) rfl rfl (yl_indexAddr hF rfl rfl rfl (fun _ => run_idx' sl52 sz9 (hS.rdRo 0 rfl) hlt_hx294)) ?_
      clear hF; intro a hF
      refine seq_yl hF (wn_none rfl) rfl rfl (yl_loadAt hF rfl rfl ag9 (fun _ h => rd_cell0 (enc := encS) (by subst h; exact hS.rdRo 0 rfl) encS_len hx294 rfl rfl)) ?_
      clear hF; intro a hF
      refine seq_yl hF (wn_none rfl) rfl rfl (yl_bin hF rfl rfl rfl rfl (fun _ => run_str_eql)) ?_
      clear hF; intro a hF
      refine wpList_nil ?_
      refine then_n ?_
      refine c_cond hF rfl (fun hc296 => ?_) (fun hc296 => ?_)
      · first | (replace hc296 := of_decide_eq_true hc296) | (replace hc296 := of_decide_eq_false (bnot_t hc296)) | (subst hc296) | (replace hc296 := bnot_t hc296; subst hc296) | (replace hc296 := bnot_t hc296) | skip
        try (have hc296x := hc296; simp only [okS, okI, okW, okP] at hc296x)
        refine c_seq ?_
        refine c_region ?_
        refine seq_yl hF (wn_none rfl) rfl rfl (yl_move hF rfl rfl) ?_
        clear hF; intro a hF
        refine seq_yl hF (wn_none rfl) rfl rfl (yl_assign hF rfl rfl) ?_
        clear hF; intro a hF
        refine wpList_nil ?_
        refine then_n ?_
        refine wp_ret ?_
        refine inb_r ?_
        refine then_r ?_
        refine then_r ?_
        refine inb_r ?_
        refine then_r ?_
        refine ret_t hF rfl rfl ?_
        exact ⟨_, rfl, _, rfl, .inl ⟨by omega, mem_atC hx294 (by assumption)⟩, (hS.sub [] (by decide) (by first | rfl | simp) (by simp))⟩
      · first | (replace hc296 := of_decide_eq_false hc296) | (replace hc296 := of_decide_eq_true (bnot_f hc296)) | (subst hc296) | (replace hc296 := bnot_f hc296; subst hc296) | (replace hc296 := bnot_f hc296) | skip
        try (have hc296x := hc296; simp only [okS, okI, okW, okP] at hc296x)
        refine wp_skip ?_
        refine inb_n ?_
        refine then_n ?_
        refine c_region ?_
        refine seq_yl hF (wn_none rfl) rfl rfl (yl_bin hF rfl rfl rfl rfl (fun _ => run_inc (by omega))) ?_
        clear hF; intro a hF
        refine seq_yl hF (wn_none rfl) rfl rfl (yl_move hF rfl rfl) ?_
        clear hF; intro a hF
        refine wpList_nil ?_
        refine then_n ?_
        exact ⟨_, (by omega), k + 1, rfl, ⟨by omega, not_memC hinv.2 hx294 (by assumption)⟩, hF.to [0, 1, 7, 8] rfl, (hS.sub [0] (by decide) (by first | rfl | simp) (by simp))⟩
    · first | (replace hc293 := of_decide_eq_false hc293) | (replace hc293 := of_decide_eq_true (bnot_f hc293)) | (subst hc293) | (replace hc293 := bnot_f hc293; subst hc293) | (replace hc293 := bnot_f hc293) | skip
      try (have hc293x := hc293; simp only [okS, okI, okW, okP] at hc293x)
      refine wp_exit ?_
      refine then_x ?_
      refine then_x ?_
      refine inb_x ?_
      refine then_n ?_
      refine c_seq ?_
      refine c_region ?_
      refine seq_yl hF (wn_none rfl) rfl rfl (yl_assign hF rfl rfl) ?_
      clear hF; intro a hF
      refine wpList_nil ?_
      refine then_n ?_
      refine wp_ret ?_
      refine ret_t hF rfl rfl ?_
      exact ⟨_, rfl, _, rfl, .inr ⟨rfl, by have h9 := hinv.2; rwa [List.take_of_length_le (by omega)] at h9⟩, (hS.sub [] (by decide) (by first | rfl | simp) (by simp))⟩

set_option maxRecDepth 100000 in
theorem scont_any (mv : Value) (M : List ByteArray) (x : ByteArray) (w0 : World) (hm : Rd w0 1 mv (M).length (cells encS (M))) (hM : M.length ≤ 9000000) :
    Fn Try.prog 43 #[mv, .string x] w0 (fun v w' => v = .bool (decide (x ∈ M)) ∧ Sat w0 w' []) := by
  obtain ⟨Amv, cmv, rfl⟩ := Rd.form hm
  refine c_enter (N := 9) (l := [_, _]) Try.func43 rfl rfl (fun a w hF hS => ?_)
  replace hS := hS.addRo hm
  refine c_seq ?_
  refine c_region ?_
  refine seq_yl hF (wn_none rfl) rfl rfl (yl_assign hF rfl rfl) ?_
  clear hF; intro a hF
  refine wpList_nil ?_
  refine then_n ?_
  refine c_seq ?_
  refine c_region ?_
  refine seq_yl hF (wn_none rfl) rfl rfl (yl_move hF rfl rfl) ?_
  clear hF; intro a hF
  refine seq_yl hF (wn_none rfl) rfl rfl (yl_move hF rfl rfl) ?_
  clear hF; intro a hF
  refine seq_wp (wn_none rfl) (wp_call (vs := [_, _]) hF rfl rfl rfl rfl cf57 (sindex_any _ M x _ (hS.rdRo 0 rfl) (by first | omega | (simp; done))) ?_)
  clear hF; rintro _ w ⟨r297, rfl, hr298, hS1⟩ a hF
  replace hS := hS.callB hS1 rfl; clear hS1
  refine seq_yl hF (wn_none rfl) rfl rfl (yl_bin hF rfl rfl rfl rfl (fun _ => run_geq)) ?_
  clear hF; intro a hF
  refine seq_yl hF (wn_none rfl) rfl rfl (yl_assign hF rfl rfl) ?_
  clear hF; intro a hF
  refine wpList_nil ?_
  refine then_n ?_
  refine wp_ret ?_
  refine ret_t hF rfl rfl ?_
  exact ⟨_, rfl, congrArg Value.bool (dec_d (by rcases hr298 with ⟨h8, h9⟩ | ⟨h8, h9⟩; exact ⟨fun _ => h9, fun _ => by omega⟩; exact ⟨fun h7 => by omega, fun h7 => absurd h7 h9⟩)), (hS.sub [] (by decide) (by first | rfl | simp) (by simp))⟩

end Go.Proofs.Ytlhcpeolkkadbaa

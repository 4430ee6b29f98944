/- walks, printed by wip/gen -/
import Derived.Test.YtiifpgkdgnoafaaW1
namespace Go.Proofs.Ytiifpgkdgnoafaa
open Go.RowKit
set_option linter.unusedVariables false
set_option linter.unusedSimpArgs false

theorem same_any (v u : Value) (L M : List E36) (w0 : World) (hv : Rd w0 3 v (L).length (cells enc36 (L))) (hu : Rd w0 3 u (M).length (cells enc36 (M))) (hL : L.length ≤ 1000000) :
    Fn Try.prog 21 #[v, u] w0 (fun v w' => v = .bool (decide (L = M)) ∧ Sat w0 w' []) := by
  obtain ⟨Av, cv, rfl⟩ := Rd.form hv
  obtain ⟨Au, cu, rfl⟩ := Rd.form hu
  refine c_enter (N := 26) (l := [_, _]) Try.func21 rfl rfl (fun a w hF hS => ?_)
  replace hS := hS.addRo hu
  replace hS := hS.addRo hv
  refine c_seq ?_
  refine c_region ?_
  refine seq_yl hF (wn_none rfl) rfl rfl (yl_assign hF rfl rfl) ?_
  clear hF; intro a hF
  refine wpList_nil ?_
  refine then_n ?_
  refine c_seq ?_
  refine c_seq ?_
  refine c_region ?_
  refine seq_yl hF (wn_none rfl) rfl rfl (yl_move hF rfl rfl) ?_
  clear hF; intro a hF
  refine seq_yl hF (wn_none rfl) rfl rfl (yl_len hF rfl rfl (fun _ => run_lenRd sl26 (hS.rdRo 0 rfl))) ?_
  clear hF; intro a hF
  refine seq_yl hF (wn_none rfl) rfl rfl (yl_move hF rfl rfl) ?_
  clear hF; intro a hF
  refine seq_yl hF (wn_none rfl) rfl rfl (yl_len hF rfl rfl (fun _ => run_lenRd sl26 (hS.rdRo 1 rfl))) ?_
  clear hF; intro a hF
  refine seq_yl hF (wn_none rfl) rfl rfl (yl_bin hF rfl rfl rfl rfl (fun _ => run_neq)) ?_
  clear hF; intro a hF
  refine wpList_nil ?_
  refine then_n ?_
  refine c_cond hF rfl (fun hc54 => ?_) (fun hc54 => ?_)
  · first | (replace hc54 := of_decide_eq_true hc54) | (replace hc54 := of_decide_eq_false (bnot_t hc54)) | (subst hc54) | (replace hc54 := bnot_t hc54; subst hc54) | (replace hc54 := bnot_t hc54) | skip
    refine c_seq ?_
    refine c_region ?_
    refine seq_yl hF (wn_none rfl) rfl rfl (yl_assign hF rfl rfl) ?_
    clear hF; intro a hF
    refine wpList_nil ?_
    refine then_n ?_
    refine wp_ret ?_
    refine then_r ?_
    refine ret_t hF rfl rfl ?_
    exact ⟨_, rfl, congrArg Value.bool (by symm; rw [decide_eq_false_iff_not]; rintro rfl; omega), (hS.sub [] (by decide) (by first | rfl | simp) (by simp))⟩
  · first | (replace hc54 := of_decide_eq_false hc54) | (replace hc54 := of_decide_eq_true (bnot_f hc54)) | (subst hc54) | (replace hc54 := bnot_f hc54; subst hc54) | (replace hc54 := bnot_f hc54) | skip
    refine wp_skip ?_
    refine then_n ?_
    refine c_seq ?_
    refine c_seq ?_
    refine c_region ?_
    refine seq_yl hF (wn_none rfl) rfl rfl (yl_assign hF rfl rfl) ?_
    clear hF; intro a hF
    refine wpList_nil ?_
    refine then_n ?_
    refine wp_block ?_
    refine c_loop (fun m a w => ∃ (k : Nat), m = L.length - k ∧ (k ≤ L.length ∧ L.take k = M.take k) ∧ Fr 26 a [(0, .slice Av (L).length cv), (1, .slice Au (M).length cu), (5, .int .i64 ((k : Nat) : Int))] ∧ Sat w0 w (.ro 3 (.slice Av (L).length cv) (L).length (cells enc36 (L)) :: .ro 3 (.slice Au (M).length cu) (M).length (cells enc36 (M)) :: [])) (L.length - 0) ?_ ?_
    · exact ⟨0, rfl, ⟨Nat.zero_le _, by simp⟩, hF.to [0, 1, 5] rfl, (hS.sub [0, 1] (by decide) (by first | rfl | simp) (by simp))⟩
    · clear hF hS; try clear hSS
      clear a w; rintro m a w ⟨k, rfl, hinv, hF, hS⟩
      have hk := hinv.1
      refine c_seq ?_
      refine c_seq ?_
      refine c_region ?_
      refine seq_yl hF (wn_none rfl) rfl rfl (yl_move hF rfl rfl) ?_
      clear hF; intro a hF
      refine seq_yl hF (wn_none rfl) rfl rfl (yl_move hF rfl rfl) ?_
      clear hF; intro a hF
      refine seq_yl hF (wn_none rfl) rfl rfl (yl_len hF rfl rfl (fun _ => run_lenRd sl26 (hS.rdRo 0 rfl))) ?_
      clear hF; intro a hF
      refine seq_yl hF (wn_none rfl) rfl rfl (yl_bin hF rfl rfl rfl rfl (fun _ => run_lss)) ?_
      clear hF; intro a hF
      refine wpList_nil ?_
      refine then_n ?_
      refine c_cond hF rfl (fun hc55 => ?_) (fun hc55 => ?_)
      · first | (replace hc55 := of_decide_eq_true hc55) | (replace hc55 := of_decide_eq_false (bnot_t hc55)) | (subst hc55) | (replace hc55 := bnot_t hc55; subst hc55) | (replace hc55 := bnot_t hc55) | skip
        refine wp_skip ?_
        refine then_n ?_
        refine c_seq ?_
        refine wp_block ?_
        refine c_seq ?_
        refine ha_startS hS [0, 1] 9 (by kernel_rfl) ?_; clear hS; intro w hS
        have hSS := hS.sub [0, 1] (by decide) rfl (by simp)
        refine ha_yl 0 hF rfl rfl rfl (by kernel_rfl) (by kernel_rfl) (by kernel_rfl) (by decide) (fun _ _ _ h => h) (wn_none rfl) (.inr hSS) (yl_move hF rfl rfl) ?_
        clear hF; intro a hF
        refine ha_yl 1 hF rfl rfl rfl (by kernel_rfl) (by kernel_rfl) (by kernel_rfl) (by decide) (fun _ _ _ h => h) (wn_none rfl) (.inr hSS) (yl_move hF rfl rfl) ?_
        clear hF; intro a hF
        have hlt_hx56 : k < (L).length := by first | omega | (simp; done) | (simp; omega)
        obtain ⟨ad57, rfl⟩ := rd_some (hS.rdRo 0 rfl) hlt_hx56
        obtain ⟨x56, hx56⟩ := get_some hlt_hx56
        refine ha_yl 2 hF rfl rfl rfl (by kernel_rfl) (by kernel_rfl) (by kernel_rfl) (by decide) (fun _ _ _ h => h) (wn_none rfl) (.inr hSS) (yl_indexAddr hF rfl rfl rfl (fun _ => run_idx' sl26 sz36 (hS.rdRo 0 rfl) hlt_hx56)) ?_
        clear hF; intro a hF
        refine ha_yl 4 hF rfl rfl rfl (by kernel_rfl) (by kernel_rfl) (by kernel_rfl) (by decide) (fun _ _ _ h => h) (wn_none rfl) (.inr hSS) (yl_move hF rfl rfl) ?_
        clear hF; intro a hF
        refine ha_yl 5 hF rfl rfl rfl (by kernel_rfl) (by kernel_rfl) (by kernel_rfl) (by decide) (fun _ _ _ h => h) (wn_none rfl) (.inr hSS) (yl_move hF rfl rfl) ?_
        clear hF; intro a hF
        have hlt_hx58 : k < (M).length := by first | omega | (simp; done) | (simp; omega)
        obtain ⟨ad59, rfl⟩ := rd_some (hS.rdRo 1 rfl) hlt_hx58
        obtain ⟨x58, hx58⟩ := get_some hlt_hx58
        refine ha_yl 6 hF rfl rfl rfl (by kernel_rfl) (by kernel_rfl) (by kernel_rfl) (by decide) (fun _ _ _ h => h) (wn_none rfl) (.inr hSS) (yl_indexAddr hF rfl rfl rfl (fun _ => run_idx' sl26 sz36 (hS.rdRo 1 rfl) hlt_hx58)) ?_
        clear hF; intro a hF
        refine ha_ld 3 hF rfl rfl rfl (by kernel_rfl) (by kernel_rfl) (by kernel_rfl) (by decide) (by kernel_rfl) (by kernel_rfl) (fun _ _ _ h => h) (wn_none rfl) hSS (yl_loadEl (rs := [.int .i64 (x56.f0), .int .i64 (x56.f1), .int .i64 (x56.f2)]) hF rfl rfl ag36 sz36 rfl (fun _ h => rd_cells (enc := enc36) (Sat.rdRo h 0 rfl) enc36_len hx56)) ?_
        clear hF; intro a hF
        refine ha_ld 7 hF rfl rfl rfl (by kernel_rfl) (by kernel_rfl) (by kernel_rfl) (by decide) (by kernel_rfl) (by kernel_rfl) (fun _ _ _ h => h) (wn_none rfl) hSS (yl_loadEl (rs := [.int .i64 (x58.f0), .int .i64 (x58.f1), .int .i64 (x58.f2)]) hF rfl rfl ag36 sz36 rfl (fun _ h => rd_cells (enc := enc36) (Sat.rdRo h 1 rfl) enc36_len hx58)) ?_
        clear hF; intro a hF
        refine ha_yl 8 hF rfl rfl rfl (by kernel_rfl) (by kernel_rfl) (by kernel_rfl) (by decide) (fun _ _ _ h => h) (wn_none rfl) (.inr hSS) (yl_binA hF rfl rfl rfl (fun w => run_eqGuard_agg w _ _ _ _ _ _ hm36) (fun w => nes36 _ _ _ _ _ _ w)) ?_
        clear hF; intro a hF
        refine ha_done (by kernel_rfl) ?_ _
        refine then_n ?_
        refine c_cond hF rfl (fun hc60 => ?_) (fun hc60 => ?_)
        · first | (replace hc60 := of_decide_eq_true hc60) | (replace hc60 := of_decide_eq_false (bnot_t hc60)) | (subst hc60) | (replace hc60 := bnot_t hc60; subst hc60) | (replace hc60 := bnot_t hc60) | skip
          refine c_seq ?_
          refine c_region ?_
          refine seq_yl hF (wn_none rfl) rfl rfl (yl_assign hF rfl rfl) ?_
          clear hF; intro a hF
          refine wpList_nil ?_
          refine then_n ?_
          refine wp_ret ?_
          refine inb_r ?_
          refine then_r ?_
          refine then_r ?_
          refine inb_r ?_
          refine then_r ?_
          refine ret_t hF rfl rfl ?_
          exact ⟨_, rfl, congrArg Value.bool (by symm; rw [decide_eq_false_iff_not]; rintro rfl; have h9 := hx56; rw [hx58] at h9; injection h9 with h9; subst h9; rename (¬ (_ ∧ _)) => hne; exact hne ⟨rfl, rfl, rfl⟩), (hS.sub [] (by decide) (by first | rfl | simp) (by simp))⟩
        · first | (replace hc60 := of_decide_eq_false hc60) | (replace hc60 := of_decide_eq_true (bnot_f hc60)) | (subst hc60) | (replace hc60 := bnot_f hc60; subst hc60) | (replace hc60 := bnot_f hc60) | skip
          refine wp_skip ?_
          refine inb_n ?_
          refine then_n ?_
          refine c_region ?_
          refine seq_yl hF (wn_none rfl) rfl rfl (yl_move hF rfl rfl) ?_
          clear hF; intro a hF
          refine seq_yl hF (wn_none rfl) rfl rfl (yl_bin hF rfl rfl rfl rfl (fun _ => run_inc (by omega))) ?_
          clear hF; intro a hF
          refine seq_yl hF (wn_none rfl) rfl rfl (yl_assign hF rfl rfl) ?_
          clear hF; intro a hF
          refine wpList_nil ?_
          refine then_n ?_
          exact ⟨_, (by omega), k + 1, rfl, ⟨by omega, takeG_eq hx56 hx58 (by simp_all) hinv.2⟩, hF.to [0, 1, 5] rfl, (hS.sub [0, 1] (by decide) (by first | rfl | simp) (by simp))⟩
      · first | (replace hc55 := of_decide_eq_false hc55) | (replace hc55 := of_decide_eq_true (bnot_f hc55)) | (subst hc55) | (replace hc55 := bnot_f hc55; subst hc55) | (replace hc55 := bnot_f hc55) | skip
        refine wp_exit ?_
        refine then_x ?_
        refine then_x ?_
        refine inb_x ?_
        refine then_n ?_
        refine c_seq ?_
        refine c_region ?_
        refine seq_yl hF (wn_none rfl) rfl rfl (yl_assign hF rfl rfl) ?_
        clear hF; intro a hF
        refine wpList_nil ?_
        refine then_n ?_
        refine wp_ret ?_
        refine ret_t hF rfl rfl ?_
        exact ⟨_, rfl, congrArg Value.bool (by symm; rw [decide_eq_true_eq]; have h9 := hinv.2; rwa [List.take_of_length_le (by omega), List.take_of_length_le (by omega)] at h9), (hS.sub [] (by decide) (by first | rfl | simp) (by simp))⟩

end Go.Proofs.Ytiifpgkdgnoafaa

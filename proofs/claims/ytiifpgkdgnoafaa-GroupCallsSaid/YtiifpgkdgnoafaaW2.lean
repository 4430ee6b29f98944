/- walks, printed by wip/gen -/
import Derived.Test.YtiifpgkdgnoafaaW1
namespace Go.Proofs.Ytiifpgkdgnoafaa
open Go.RowKit
set_option linter.unusedVariables false
set_option linter.unusedSimpArgs false

theorem wrong_any (v : Value) (L : List E36) (t n : Int) (w0 : World) (hv : Rd w0 3 v (L).length (cells enc36 (L))) (hL : L.length ≤ 1000000) :
    Fn Try.prog 28 #[v, .int .i64 t, .int .i64 n] w0 (fun v w' => v = .int .i64 (wrongF L t n) ∧ Sat w0 w' []) := by
  obtain ⟨Av, cv, rfl⟩ := Rd.form hv
  refine c_enter (N := 26) (l := [_, _, _]) Try.func28 rfl rfl (fun a w hF hS => ?_)
  replace hS := hS.addRo hv
  refine c_seq ?_
  refine c_region ?_
  refine seq_yl hF (wn_none rfl) rfl rfl (yl_assign hF rfl rfl) ?_
  clear hF; intro a hF
  refine wpList_nil ?_
  refine then_n ?_
  refine c_seq ?_
  refine c_seq ?_
  refine c_region ?_
  refine seq_yl hF (wn_none rfl) rfl rfl (yl_move hF rfl rfl) ?_
  clear hF; intro a hF
  refine seq_wp (wn_none rfl) (wp_call (vs := [_]) hF rfl rfl rfl rfl cf19 (check_any _ L _ (hS.rdRo 0 rfl) (by first | omega | (simp; done) | (simp; omega) | (rw [chF_len]; first | omega | (simp; done) | (simp; omega)) | (rw [unF_len]; first | omega | (simp; done) | (simp; omega)))) ?_)
  clear hF; rintro _ w ⟨rfl, hS1⟩ a hF
  replace hS := hS.callB hS1 rfl; clear hS1
  refine seq_yl hF (wn_none rfl) rfl rfl (yl_un hF rfl rfl (fun _ => run_not)) ?_
  clear hF; intro a hF
  refine wpList_nil ?_
  refine then_n ?_
  refine c_cond hF rfl (fun hc27 => ?_) (fun hc27 => ?_)
  · first | (replace hc27 := of_decide_eq_true hc27) | (replace hc27 := of_decide_eq_false (bnot_t hc27)) | (subst hc27) | (replace hc27 := bnot_t hc27; subst hc27) | (replace hc27 := bnot_t hc27) | skip
    refine c_seq ?_
    refine c_region ?_
    refine seq_yl hF (wn_none rfl) rfl rfl (yl_assign hF rfl rfl) ?_
    clear hF; intro a hF
    refine wpList_nil ?_
    refine then_n ?_
    refine wp_ret ?_
    refine then_r ?_
    refine ret_t hF rfl rfl ?_
    exact ⟨_, rfl, congrArg (Value.int .i64) (wrong_1 (by assumption)), (hS.sub [] (by decide) (by first | rfl | simp) (by simp))⟩
  · first | (replace hc27 := of_decide_eq_false hc27) | (replace hc27 := of_decide_eq_true (bnot_f hc27)) | (subst hc27) | (replace hc27 := bnot_f hc27; subst hc27) | (replace hc27 := bnot_f hc27) | skip
    refine wp_skip ?_
    refine then_n ?_
    refine c_seq ?_
    refine c_seq ?_
    refine c_region ?_
    refine seq_yl hF (wn_none rfl) rfl rfl (yl_move hF rfl rfl) ?_
    clear hF; intro a hF
    refine seq_yl hF (wn_none rfl) rfl rfl (yl_bin hF rfl rfl rfl rfl (fun _ => run_lss)) ?_
    clear hF; intro a hF
    refine seq_yl hF (wn_none rfl) rfl rfl (yl_move hF rfl rfl) ?_
    clear hF; intro a hF
    refine fr_split hF (fun hc28 hF => ?_) (fun hc28 hF => ?_)
    · first | (replace hc28 := of_decide_eq_true hc28) | (replace hc28 := of_decide_eq_false (bnot_t hc28)) | (subst hc28) | (replace hc28 := bnot_t hc28; subst hc28) | (replace hc28 := bnot_t hc28) | skip
      refine seq_skip hF (wn_f hF rfl rfl rfl rfl) rfl rfl ?_
      clear hF; intro a hF
      refine seq_skip hF (wn_f hF rfl rfl rfl rfl) rfl rfl ?_
      clear hF; intro a hF
      refine seq_skip hF (wn_f hF rfl rfl rfl rfl) rfl rfl ?_
      clear hF; intro a hF
      refine seq_skip hF (wn_f hF rfl rfl rfl rfl) rfl rfl ?_
      clear hF; intro a hF
      refine seq_yl hF (wn_none rfl) rfl rfl (yl_pick (u := _) (v := undef) hF rfl rfl (fun _ => rfl) (fun h => by cases h)) ?_
      clear hF; intro a hF
      refine seq_yl hF (wn_none rfl) rfl rfl (yl_move hF rfl rfl) ?_
      clear hF; intro a hF
      refine seq_skip hF (wn_f hF rfl rfl rfl rfl) rfl rfl ?_
      clear hF; intro a hF
      refine seq_skip hF (wn_f hF rfl rfl rfl rfl) rfl rfl ?_
      clear hF; intro a hF
      refine seq_yl hF (wn_none rfl) rfl rfl (yl_pick (u := _) (v := undef) hF rfl rfl (fun _ => rfl) (fun h => by cases h)) ?_
      clear hF; intro a hF
      refine seq_yl hF (wn_none rfl) rfl rfl (yl_move hF rfl rfl) ?_
      clear hF; intro a hF
      refine seq_skip hF (wn_f hF rfl rfl rfl rfl) rfl rfl ?_
      clear hF; intro a hF
      refine seq_skip hF (wn_f hF rfl rfl rfl rfl) rfl rfl ?_
      clear hF; intro a hF
      refine seq_yl hF (wn_none rfl) rfl rfl (yl_pick (u := _) (v := undef) hF rfl rfl (fun _ => rfl) (fun h => by cases h)) ?_
      clear hF; intro a hF
      refine wpList_nil ?_
      refine then_n ?_
      refine c_cond_t hF rfl ?_
      refine c_seq ?_
      refine c_region ?_
      refine seq_yl hF (wn_none rfl) rfl rfl (yl_assign hF rfl rfl) ?_
      clear hF; intro a hF
      refine wpList_nil ?_
      refine then_n ?_
      refine wp_ret ?_
      refine then_r ?_
      refine ret_t hF rfl rfl ?_
      exact ⟨_, rfl, congrArg (Value.int .i64) (wrong_2 (by assumption) (by omega)), (hS.sub [] (by decide) (by first | rfl | simp) (by simp))⟩
    · first | (replace hc28 := of_decide_eq_false hc28) | (replace hc28 := of_decide_eq_true (bnot_f hc28)) | (subst hc28) | (replace hc28 := bnot_f hc28; subst hc28) | (replace hc28 := bnot_f hc28) | skip
      refine seq_yl hF (wn_t hF rfl rfl rfl rfl) rfl rfl (yl_move hF rfl rfl) ?_
      clear hF; intro a hF
      refine seq_yl hF (wn_t hF rfl rfl rfl rfl) rfl rfl (yl_move hF rfl rfl) ?_
      clear hF; intro a hF
      refine seq_yl hF (wn_t hF rfl rfl rfl rfl) rfl rfl (yl_len hF rfl rfl (fun _ => run_lenRd sl26 (hS.rdRo 0 rfl))) ?_
      clear hF; intro a hF
      refine seq_yl hF (wn_t hF rfl rfl rfl rfl) rfl rfl (yl_bin hF rfl rfl rfl rfl (fun _ => run_geq)) ?_
      clear hF; intro a hF
      refine seq_yl hF (wn_none rfl) rfl rfl (yl_pick (u := _) (v := undef) hF rfl rfl (fun h => by cases h) (fun _ => rfl)) ?_
      clear hF; intro a hF
      refine seq_yl hF (wn_none rfl) rfl rfl (yl_move hF rfl rfl) ?_
      clear hF; intro a hF
      refine fr_split hF (fun hc29 hF => ?_) (fun hc29 hF => ?_)
      · first | (replace hc29 := of_decide_eq_true hc29) | (replace hc29 := of_decide_eq_false (bnot_t hc29)) | (subst hc29) | (replace hc29 := bnot_t hc29; subst hc29) | (replace hc29 := bnot_t hc29) | skip
        refine seq_skip hF (wn_f hF rfl rfl rfl rfl) rfl rfl ?_
        clear hF; intro a hF
        refine seq_skip hF (wn_f hF rfl rfl rfl rfl) rfl rfl ?_
        clear hF; intro a hF
        refine seq_yl hF (wn_none rfl) rfl rfl (yl_pick (u := _) (v := undef) hF rfl rfl (fun _ => rfl) (fun h => by cases h)) ?_
        clear hF; intro a hF
        refine seq_yl hF (wn_none rfl) rfl rfl (yl_move hF rfl rfl) ?_
        clear hF; intro a hF
        refine seq_skip hF (wn_f hF rfl rfl rfl rfl) rfl rfl ?_
        clear hF; intro a hF
        refine seq_skip hF (wn_f hF rfl rfl rfl rfl) rfl rfl ?_
        clear hF; intro a hF
        refine seq_yl hF (wn_none rfl) rfl rfl (yl_pick (u := _) (v := undef) hF rfl rfl (fun _ => rfl) (fun h => by cases h)) ?_
        clear hF; intro a hF
        refine wpList_nil ?_
        refine then_n ?_
        refine c_cond_t hF rfl ?_
        refine c_seq ?_
        refine c_region ?_
        refine seq_yl hF (wn_none rfl) rfl rfl (yl_assign hF rfl rfl) ?_
        clear hF; intro a hF
        refine wpList_nil ?_
        refine then_n ?_
        refine wp_ret ?_
        refine then_r ?_
        refine ret_t hF rfl rfl ?_
        exact ⟨_, rfl, congrArg (Value.int .i64) (wrong_2 (by assumption) (by omega)), (hS.sub [] (by decide) (by first | rfl | simp) (by simp))⟩
      · first | (replace hc29 := of_decide_eq_false hc29) | (replace hc29 := of_decide_eq_true (bnot_f hc29)) | (subst hc29) | (replace hc29 := bnot_f hc29; subst hc29) | (replace hc29 := bnot_f hc29) | skip
        refine seq_yl hF (wn_t hF rfl rfl rfl rfl) rfl rfl (yl_move hF rfl rfl) ?_
        clear hF; intro a hF
        refine seq_yl hF (wn_t hF rfl rfl rfl rfl) rfl rfl (yl_bin hF rfl rfl rfl rfl (fun _ => run_lss)) ?_
        clear hF; intro a hF
        refine seq_yl hF (wn_none rfl) rfl rfl (yl_pick (u := _) (v := undef) hF rfl rfl (fun h => by cases h) (fun _ => rfl)) ?_
        clear hF; intro a hF
        refine seq_yl hF (wn_none rfl) rfl rfl (yl_move hF rfl rfl) ?_
        clear hF; intro a hF
        refine fr_split hF (fun hc30 hF => ?_) (fun hc30 hF => ?_)
        · first | (replace hc30 := of_decide_eq_true hc30) | (replace hc30 := of_decide_eq_false (bnot_t hc30)) | (subst hc30) | (replace hc30 := bnot_t hc30; subst hc30) | (replace hc30 := bnot_t hc30) | skip
          refine seq_skip hF (wn_f hF rfl rfl rfl rfl) rfl rfl ?_
          clear hF; intro a hF
          refine seq_skip hF (wn_f hF rfl rfl rfl rfl) rfl rfl ?_
          clear hF; intro a hF
          refine seq_yl hF (wn_none rfl) rfl rfl (yl_pick (u := _) (v := undef) hF rfl rfl (fun _ => rfl) (fun h => by cases h)) ?_
          clear hF; intro a hF
          refine wpList_nil ?_
          refine then_n ?_
          refine c_cond_t hF rfl ?_
          refine c_seq ?_
          refine c_region ?_
          refine seq_yl hF (wn_none rfl) rfl rfl (yl_assign hF rfl rfl) ?_
          clear hF; intro a hF
          refine wpList_nil ?_
          refine then_n ?_
          refine wp_ret ?_
          refine then_r ?_
          refine ret_t hF rfl rfl ?_
          exact ⟨_, rfl, congrArg (Value.int .i64) (wrong_2 (by assumption) (by omega)), (hS.sub [] (by decide) (by first | rfl | simp) (by simp))⟩
        · first | (replace hc30 := of_decide_eq_false hc30) | (replace hc30 := of_decide_eq_true (bnot_f hc30)) | (subst hc30) | (replace hc30 := bnot_f hc30; subst hc30) | (replace hc30 := bnot_f hc30) | skip
          refine seq_yl hF (wn_t hF rfl rfl rfl rfl) rfl rfl (yl_move hF rfl rfl) ?_
          clear hF; intro a hF
          refine seq_yl hF (wn_t hF rfl rfl rfl rfl) rfl rfl (yl_bin hF rfl rfl rfl rfl (fun _ => run_gtr)) ?_
          clear hF; intro a hF
          refine seq_yl hF (wn_none rfl) rfl rfl (yl_pick (u := _) (v := undef) hF rfl rfl (fun h => by cases h) (fun _ => rfl)) ?_
          clear hF; intro a hF
          refine wpList_nil ?_
          refine then_n ?_
          refine c_cond hF rfl (fun hc31 => ?_) (fun hc31 => ?_)
          · first | (replace hc31 := of_decide_eq_true hc31) | (replace hc31 := of_decide_eq_false (bnot_t hc31)) | (subst hc31) | (replace hc31 := bnot_t hc31; subst hc31) | (replace hc31 := bnot_t hc31) | skip
            refine c_seq ?_
            refine c_region ?_
            refine seq_yl hF (wn_none rfl) rfl rfl (yl_assign hF rfl rfl) ?_
            clear hF; intro a hF
            refine wpList_nil ?_
            refine then_n ?_
            refine wp_ret ?_
            refine then_r ?_
            refine ret_t hF rfl rfl ?_
            exact ⟨_, rfl, congrArg (Value.int .i64) (wrong_2 (by assumption) (by omega)), (hS.sub [] (by decide) (by first | rfl | simp) (by simp))⟩
          · first | (replace hc31 := of_decide_eq_false hc31) | (replace hc31 := of_decide_eq_true (bnot_f hc31)) | (subst hc31) | (replace hc31 := bnot_f hc31; subst hc31) | (replace hc31 := bnot_f hc31) | skip
            refine wp_skip ?_
            refine then_n ?_
            refine c_seq ?_
            refine c_region ?_
            refine seq_yl hF (wn_none rfl) rfl rfl (yl_assign hF rfl rfl) ?_
            clear hF; intro a hF
            refine wpList_nil ?_
            refine then_n ?_
            refine wp_ret ?_
            refine ret_t hF rfl rfl ?_
            exact ⟨_, rfl, congrArg (Value.int .i64) (wrong_0 (by assumption) (by omega)), (hS.sub [] (by decide) (by first | rfl | simp) (by simp))⟩

theorem charge_any (v : Value) (L : List E36) (t n : Int) (w0 : World) (hv : Rd w0 3 v (L).length (cells enc36 (L))) (hL : L.length ≤ 1000000) :
    Fn Try.prog 11 #[v, .int .i64 t, .int .i64 n] w0 (fun v w' => ∃ v1, v = .tuple #[v1, .int .i64 (chF L t n).2] ∧ Sat w0 w' [.row 36 3 v1 ((chF L t n).1).length (cells enc36 ((chF L t n).1))]) := by
  obtain ⟨Av, cv, rfl⟩ := Rd.form hv
  refine c_enter (N := 44) (l := [_, _, _]) Try.func11 rfl rfl (fun a w hF hS => ?_)
  replace hS := hS.addRo hv
  refine c_seq ?_
  refine c_region ?_
  refine seq_yl hF (wn_none rfl) rfl rfl (yl_assign hF rfl rfl) ?_
  clear hF; intro a hF
  refine seq_yl hF (wn_none rfl) rfl rfl (yl_assign hF rfl rfl) ?_
  clear hF; intro a hF
  refine wpList_nil ?_
  refine then_n ?_
  refine c_seq ?_
  refine c_region ?_
  refine seq_yl hF (wn_none rfl) rfl rfl (yl_move hF rfl rfl) ?_
  clear hF; intro a hF
  refine seq_wp (wn_none rfl) (wp_call (vs := [_]) hF rfl rfl rfl rfl cf27 (cloneG_any _ _ _ (hS.rdRo 0 rfl) (by first | omega | (simp; done) | (simp; omega) | (rw [chF_len]; first | omega | (simp; done) | (simp; omega)) | (rw [unF_len]; first | omega | (simp; done) | (simp; omega)))) ?_)
  clear hF; rintro _ w ⟨v32, rfl, hS1⟩ a hF
  replace hS := hS.callB hS1 rfl; clear hS1
  obtain ⟨Av32, cv32, rfl⟩ := hS.form 0 rfl
  refine seq_yl hF (wn_none rfl) rfl rfl (yl_assign hF rfl rfl) ?_
  clear hF; intro a hF
  refine wpList_nil ?_
  refine then_n ?_
  refine c_seq ?_
  refine c_seq ?_
  refine c_region ?_
  refine seq_yl hF (wn_none rfl) rfl rfl (yl_move hF rfl rfl) ?_
  clear hF; intro a hF
  refine seq_yl hF (wn_none rfl) rfl rfl (yl_move hF rfl rfl) ?_
  clear hF; intro a hF
  refine seq_yl hF (wn_none rfl) rfl rfl (yl_move hF rfl rfl) ?_
  clear hF; intro a hF
  refine seq_wp (wn_none rfl) (wp_call (vs := [_, _, _]) hF rfl rfl rfl rfl cf28 (wrong_any _ L (t) (n) _ (hS.rdRo 1 rfl) (by first | omega | (simp; done) | (simp; omega) | (rw [chF_len]; first | omega | (simp; done) | (simp; omega)) | (rw [unF_len]; first | omega | (simp; done) | (simp; omega)))) ?_)
  clear hF; rintro _ w ⟨rfl, hS1⟩ a hF
  replace hS := hS.callB hS1 rfl; clear hS1
  refine seq_yl hF (wn_none rfl) rfl rfl (yl_assign hF rfl rfl) ?_
  clear hF; intro a hF
  refine wpList_nil ?_
  refine then_n ?_
  refine c_seq ?_
  refine c_region ?_
  refine seq_yl hF (wn_none rfl) rfl rfl (yl_move hF rfl rfl) ?_
  clear hF; intro a hF
  refine seq_yl hF (wn_none rfl) rfl rfl (yl_bin hF rfl rfl rfl rfl (fun _ => run_neq)) ?_
  clear hF; intro a hF
  refine wpList_nil ?_
  refine then_n ?_
  refine c_cond hF rfl (fun hc33 => ?_) (fun hc33 => ?_)
  · first | (replace hc33 := of_decide_eq_true hc33) | (replace hc33 := of_decide_eq_false (bnot_t hc33)) | (subst hc33) | (replace hc33 := bnot_t hc33; subst hc33) | (replace hc33 := bnot_t hc33) | skip
    refine c_seq ?_
    refine c_region ?_
    refine seq_yl hF (wn_none rfl) rfl rfl (yl_move hF rfl rfl) ?_
    clear hF; intro a hF
    refine seq_yl hF (wn_none rfl) rfl rfl (yl_move hF rfl rfl) ?_
    clear hF; intro a hF
    refine seq_yl hF (wn_none rfl) rfl rfl (yl_assign hF rfl rfl) ?_
    clear hF; intro a hF
    refine seq_yl hF (wn_none rfl) rfl rfl (yl_assign hF rfl rfl) ?_
    clear hF; intro a hF
    refine wpList_nil ?_
    refine then_n ?_
    refine wp_ret ?_
    refine then_r ?_
    refine ret_tt hF rfl rfl rfl ?_
    have hF0 : chF L t n = (L, wrongF L t n) := by unfold chF; rw [if_neg (by assumption)]
    rw [hF0]
    exact ⟨_, rfl, _, rfl, (hS.sub [0] (by decide) (by first | rfl | simp) (by simp))⟩
  · first | (replace hc33 := of_decide_eq_false hc33) | (replace hc33 := of_decide_eq_true (bnot_f hc33)) | (subst hc33) | (replace hc33 := bnot_f hc33; subst hc33) | (replace hc33 := bnot_f hc33) | skip
    refine wp_skip ?_
    refine then_n ?_
    refine c_seq ?_
    refine c_seq ?_
    refine ha_startS hS [1] 13 (by kernel_rfl) ?_; clear hS; intro w hS
    have hSS := hS.sub [1] (by decide) rfl (by simp)
    have hw0 : wrongF L t n = 0 := by omega
    obtain ⟨hmem, hl1, hl4, ht0, ht1, hn0, hn1⟩ := wrong_inv hw0
    refine ha_yl 0 hF rfl rfl rfl (by kernel_rfl) (by kernel_rfl) (by kernel_rfl) (by decide) (fun _ _ _ h => h) (wn_none rfl) (.inr hSS) (yl_move hF rfl rfl) ?_
    clear hF; intro a hF
    refine ha_yl 1 hF rfl rfl rfl (by kernel_rfl) (by kernel_rfl) (by kernel_rfl) (by decide) (fun _ _ _ h => h) (wn_none rfl) (.inr hSS) (yl_move hF rfl rfl) ?_
    clear hF; intro a hF
    refine ha_yl 2 hF rfl rfl rfl (by kernel_rfl) (by kernel_rfl) (by kernel_rfl) (by decide) (fun _ _ _ h => h) (wn_none rfl) (.inr hSS) (yl_move hF rfl rfl) ?_
    clear hF; intro a hF
    replace hF := fr_seti (b' := ((t.toNat : Nat) : Int)) hF (by omega)
    have hlt_hx34 : t.toNat < (L).length := by first | omega | (simp; done) | (simp; omega)
    obtain ⟨ad35, rfl⟩ := rd_some (hS.rdRo 1 rfl) hlt_hx34
    obtain ⟨x34, hx34⟩ := get_some hlt_hx34
    have hb_x34 := hmem x34 (List.mem_of_getElem? hx34)
    refine ha_yl 3 hF rfl rfl rfl (by kernel_rfl) (by kernel_rfl) (by kernel_rfl) (by decide) (fun _ _ _ h => h) (wn_none rfl) (.inr hSS) (yl_indexAddr hF rfl rfl rfl (fun _ => run_idx' sl26 sz36 (hS.rdRo 1 rfl) hlt_hx34)) ?_
    clear hF; intro a hF
    refine ha_yl 4 hF rfl rfl rfl (by kernel_rfl) (by kernel_rfl) (by kernel_rfl) (by decide) (fun _ _ _ h => h) (wn_none rfl) (.inr hSS) (yl_fieldAddr hF rfl rfl (fun w => run_fa0 fo36_0)) ?_
    clear hF; intro a hF
    refine ha_yl 6 hF rfl rfl rfl (by kernel_rfl) (by kernel_rfl) (by kernel_rfl) (by decide) (fun _ _ _ h => h) (wn_none rfl) (.inr hSS) (yl_move hF rfl rfl) ?_
    clear hF; intro a hF
    refine ha_yl 7 hF rfl rfl rfl (by kernel_rfl) (by kernel_rfl) (by kernel_rfl) (by decide) (fun _ _ _ h => h) (wn_none rfl) (.inr hSS) (yl_move hF rfl rfl) ?_
    clear hF; intro a hF
    replace hF := fr_seti (b' := ((t.toNat : Nat) : Int)) hF (by omega)
    refine ha_yl 8 hF rfl rfl rfl (by kernel_rfl) (by kernel_rfl) (by kernel_rfl) (by decide) (fun _ _ _ h => h) (wn_none rfl) (.inr hSS) (yl_indexAddr hF rfl rfl rfl (fun _ => run_idx' sl26 sz36 (hS.rdRo 1 rfl) hlt_hx34)) ?_
    clear hF; intro a hF
    refine ha_yl 9 hF rfl rfl rfl (by kernel_rfl) (by kernel_rfl) (by kernel_rfl) (by decide) (fun _ _ _ h => h) (wn_none rfl) (.inr hSS) (yl_fieldAddr hF rfl rfl (fun w => run_fa fo36_2)) ?_
    clear hF; intro a hF
    refine ha_ld 5 hF rfl rfl rfl (by kernel_rfl) (by kernel_rfl) (by kernel_rfl) (by decide) (by kernel_rfl) (by kernel_rfl) (fun _ _ _ h => h) (wn_none rfl) hSS (yl_loadAt hF rfl rfl ag3 (fun _ h => rd_cell0 (enc := enc36) (Sat.rdRo h 0 rfl) enc36_len hx34 rfl rfl)) ?_
    clear hF; intro a hF
    refine ha_ld 10 hF rfl rfl rfl (by kernel_rfl) (by kernel_rfl) (by kernel_rfl) (by decide) (by kernel_rfl) (by kernel_rfl) (fun _ _ _ h => h) (wn_none rfl) hSS (yl_loadAt hF rfl rfl ag3 (fun _ h => rd_cell (j := 2) (enc := enc36) (Sat.rdRo h 0 rfl) enc36_len hx34 rfl rfl)) ?_
    clear hF; intro a hF
    refine ha_yl 11 hF rfl rfl rfl (by kernel_rfl) (by kernel_rfl) (by kernel_rfl) (by decide) (fun _ _ _ h => h) (wn_none rfl) (.inr hSS) (yl_bin hF rfl rfl rfl rfl (fun _ => run_sub (by simp only [okG] at *; refine ⟨?_, ?_⟩ <;> omega))) ?_
    clear hF; intro a hF
    refine ha_yl 12 hF rfl rfl rfl (by kernel_rfl) (by kernel_rfl) (by kernel_rfl) (by decide) (fun _ _ _ h => h) (wn_none rfl) (.inr hSS) (yl_bin hF rfl rfl rfl rfl (fun _ => run_gtr)) ?_
    clear hF; intro a hF
    refine ha_done (by kernel_rfl) ?_ _
    refine then_n ?_
    refine c_cond hF rfl (fun hc36 => ?_) (fun hc36 => ?_)
    · first | (replace hc36 := of_decide_eq_true hc36) | (replace hc36 := of_decide_eq_false (bnot_t hc36)) | (subst hc36) | (replace hc36 := bnot_t hc36; subst hc36) | (replace hc36 := bnot_t hc36) | skip
      refine c_seq ?_
      refine c_region ?_
      refine seq_yl hF (wn_none rfl) rfl rfl (yl_move hF rfl rfl) ?_
      clear hF; intro a hF
      refine seq_yl hF (wn_none rfl) rfl rfl (yl_assign hF rfl rfl) ?_
      clear hF; intro a hF
      refine seq_yl hF (wn_none rfl) rfl rfl (yl_assign hF rfl rfl) ?_
      clear hF; intro a hF
      refine wpList_nil ?_
      refine then_n ?_
      refine wp_ret ?_
      refine then_r ?_
      refine ret_tt hF rfl rfl rfl ?_
      have hF0 : chF L t n = (L, 3) := by unfold chF; rw [if_pos hw0, atG_get hx34]; first | rw [if_pos (by omega)] | rw [if_neg (by omega)]
      rw [hF0]
      exact ⟨_, rfl, _, rfl, (hS.sub [0] (by decide) (by first | rfl | simp) (by simp))⟩
    · first | (replace hc36 := of_decide_eq_false hc36) | (replace hc36 := of_decide_eq_true (bnot_f hc36)) | (subst hc36) | (replace hc36 := bnot_f hc36; subst hc36) | (replace hc36 := bnot_f hc36) | skip
      refine wp_skip ?_
      refine then_n ?_
      refine c_seq ?_
      refine c_region ?_
      refine seq_yl hF (wn_none rfl) rfl rfl (yl_move hF rfl rfl) ?_
      clear hF; intro a hF
      refine seq_yl hF (wn_none rfl) rfl rfl (yl_move hF rfl rfl) ?_
      clear hF; intro a hF
      replace hF := fr_seti (b' := ((t.toNat : Nat) : Int)) hF (by omega)
      have hlt_hx37 : t.toNat < (L).length := by first | omega | (simp; done) | (simp; omega)
      obtain ⟨ad38, rfl⟩ := rd_some (hS.rdRow 0 rfl) hlt_hx37
      obtain ⟨x37, hx37⟩ := get_some hlt_hx37
      have hb_x37 := hmem x37 (List.mem_of_getElem? hx37)
      refine seq_yl hF (wn_none rfl) rfl rfl (yl_indexAddr hF rfl rfl rfl (fun _ => run_idx' sl26 sz36 (hS.rdRow 0 rfl) hlt_hx37)) ?_
      clear hF; intro a hF
      refine seq_yl hF (wn_none rfl) rfl rfl (yl_fieldAddr hF rfl rfl (fun w => run_fa fo36_2)) ?_
      clear hF; intro a hF
      refine seq_yl hF (wn_none rfl) rfl rfl (yl_loadAt hF rfl rfl ag3 (fun _ h => rd_cell (j := 2) (enc := enc36) (by subst h; exact hS.rdRow 0 rfl) enc36_len hx37 rfl rfl)) ?_
      clear hF; intro a hF
      refine seq_yl hF (wn_none rfl) rfl rfl (yl_move hF rfl rfl) ?_
      clear hF; intro a hF
      refine seq_yl hF (wn_none rfl) rfl rfl (yl_bin hF rfl rfl rfl rfl (fun _ => run_add (by simp only [okG] at *; refine ⟨?_, ?_⟩ <;> omega))) ?_
      clear hF; intro a hF
      refine seq_yl hF (wn_none rfl) rfl rfl (yl_indexAddr hF rfl rfl rfl (fun _ => run_idx' sl26 sz36 (hS.rdRow 0 rfl) hlt_hx37)) ?_
      clear hF; intro a hF
      refine seq_yl hF (wn_none rfl) rfl rfl (yl_fieldAddr hF rfl rfl (fun w => run_fa fo36_2)) ?_
      clear hF; intro a hF
      refine seq_wp (wn_none rfl) (wp_storeAt (j := 2) (enc := enc36) (z' := (E36.mk (x37.f0) (x37.f1) (((x37.f2) + (n))))) hF hS rfl rfl rfl rfl 0 rfl sz3 (by simp [Value.cells, Value.oneCell']) enc36_len hx37 (by simp [Value.cells]) rfl ?_)
      clear hF hS; intro a w hF hS
      refine wpList_nil ?_
      refine then_n ?_
      refine c_seq ?_
      refine c_region ?_
      refine seq_yl hF (wn_none rfl) rfl rfl (yl_move hF rfl rfl) ?_
      clear hF; intro a hF
      refine seq_yl hF (wn_none rfl) rfl rfl (yl_assign hF rfl rfl) ?_
      clear hF; intro a hF
      refine seq_yl hF (wn_none rfl) rfl rfl (yl_assign hF rfl rfl) ?_
      clear hF; intro a hF
      refine wpList_nil ?_
      refine then_n ?_
      refine wp_ret ?_
      refine ret_tt hF rfl rfl rfl ?_
      have hxx : x34 = x37 := Option.some.inj (hx34.symm.trans hx37)
      have hxx0 := congrArg E36.f0 hxx
      have hxx2 := congrArg E36.f2 hxx
      have hF0 : chF L t n = ((L.set t.toNat (E36.mk (x37.f0) (x37.f1) (((x37.f2) + (n))))), 0) := by unfold chF; rw [if_pos hw0, atG_get hx37]; first | rw [if_pos (by omega)] | rw [if_neg (by omega)]
      rw [hF0]
      exact ⟨_, rfl, _, rfl, (hS.sub [0] (by decide) (by first | rfl | simp) (by simp))⟩

theorem uncharge_any (v : Value) (L : List E36) (t n : Int) (w0 : World) (hv : Rd w0 3 v (L).length (cells enc36 (L))) (hL : L.length ≤ 1000000) :
    Fn Try.prog 13 #[v, .int .i64 t, .int .i64 n] w0 (fun v w' => ∃ v1, v = .tuple #[v1, .int .i64 (unF L t n).2] ∧ Sat w0 w' [.row 36 3 v1 ((unF L t n).1).length (cells enc36 ((unF L t n).1))]) := by
  obtain ⟨Av, cv, rfl⟩ := Rd.form hv
  refine c_enter (N := 38) (l := [_, _, _]) Try.func13 rfl rfl (fun a w hF hS => ?_)
  replace hS := hS.addRo hv
  refine c_seq ?_
  refine c_region ?_
  refine seq_yl hF (wn_none rfl) rfl rfl (yl_assign hF rfl rfl) ?_
  clear hF; intro a hF
  refine seq_yl hF (wn_none rfl) rfl rfl (yl_assign hF rfl rfl) ?_
  clear hF; intro a hF
  refine wpList_nil ?_
  refine then_n ?_
  refine c_seq ?_
  refine c_region ?_
  refine seq_yl hF (wn_none rfl) rfl rfl (yl_move hF rfl rfl) ?_
  clear hF; intro a hF
  refine seq_wp (wn_none rfl) (wp_call (vs := [_]) hF rfl rfl rfl rfl cf27 (cloneG_any _ _ _ (hS.rdRo 0 rfl) (by first | omega | (simp; done) | (simp; omega) | (rw [chF_len]; first | omega | (simp; done) | (simp; omega)) | (rw [unF_len]; first | omega | (simp; done) | (simp; omega)))) ?_)
  clear hF; rintro _ w ⟨v39, rfl, hS1⟩ a hF
  replace hS := hS.callB hS1 rfl; clear hS1
  obtain ⟨Av39, cv39, rfl⟩ := hS.form 0 rfl
  refine seq_yl hF (wn_none rfl) rfl rfl (yl_assign hF rfl rfl) ?_
  clear hF; intro a hF
  refine wpList_nil ?_
  refine then_n ?_
  refine c_seq ?_
  refine c_seq ?_
  refine c_region ?_
  refine seq_yl hF (wn_none rfl) rfl rfl (yl_move hF rfl rfl) ?_
  clear hF; intro a hF
  refine seq_yl hF (wn_none rfl) rfl rfl (yl_move hF rfl rfl) ?_
  clear hF; intro a hF
  refine seq_yl hF (wn_none rfl) rfl rfl (yl_move hF rfl rfl) ?_
  clear hF; intro a hF
  refine seq_wp (wn_none rfl) (wp_call (vs := [_, _, _]) hF rfl rfl rfl rfl cf28 (wrong_any _ L (t) (n) _ (hS.rdRo 1 rfl) (by first | omega | (simp; done) | (simp; omega) | (rw [chF_len]; first | omega | (simp; done) | (simp; omega)) | (rw [unF_len]; first | omega | (simp; done) | (simp; omega)))) ?_)
  clear hF; rintro _ w ⟨rfl, hS1⟩ a hF
  replace hS := hS.callB hS1 rfl; clear hS1
  refine seq_yl hF (wn_none rfl) rfl rfl (yl_assign hF rfl rfl) ?_
  clear hF; intro a hF
  refine wpList_nil ?_
  refine then_n ?_
  refine c_seq ?_
  refine c_region ?_
  refine seq_yl hF (wn_none rfl) rfl rfl (yl_move hF rfl rfl) ?_
  clear hF; intro a hF
  refine seq_yl hF (wn_none rfl) rfl rfl (yl_bin hF rfl rfl rfl rfl (fun _ => run_neq)) ?_
  clear hF; intro a hF
  refine wpList_nil ?_
  refine then_n ?_
  refine c_cond hF rfl (fun hc40 => ?_) (fun hc40 => ?_)
  · first | (replace hc40 := of_decide_eq_true hc40) | (replace hc40 := of_decide_eq_false (bnot_t hc40)) | (subst hc40) | (replace hc40 := bnot_t hc40; subst hc40) | (replace hc40 := bnot_t hc40) | skip
    refine c_seq ?_
    refine c_region ?_
    refine seq_yl hF (wn_none rfl) rfl rfl (yl_move hF rfl rfl) ?_
    clear hF; intro a hF
    refine seq_yl hF (wn_none rfl) rfl rfl (yl_move hF rfl rfl) ?_
    clear hF; intro a hF
    refine seq_yl hF (wn_none rfl) rfl rfl (yl_assign hF rfl rfl) ?_
    clear hF; intro a hF
    refine seq_yl hF (wn_none rfl) rfl rfl (yl_assign hF rfl rfl) ?_
    clear hF; intro a hF
    refine wpList_nil ?_
    refine then_n ?_
    refine wp_ret ?_
    refine then_r ?_
    refine ret_tt hF rfl rfl rfl ?_
    have hF0 : unF L t n = (L, wrongF L t n) := by unfold unF; rw [if_neg (by assumption)]
    rw [hF0]
    exact ⟨_, rfl, _, rfl, (hS.sub [0] (by decide) (by first | rfl | simp) (by simp))⟩
  · first | (replace hc40 := of_decide_eq_false hc40) | (replace hc40 := of_decide_eq_true (bnot_f hc40)) | (subst hc40) | (replace hc40 := bnot_f hc40; subst hc40) | (replace hc40 := bnot_f hc40) | skip
    refine wp_skip ?_
    refine then_n ?_
    refine c_seq ?_
    refine c_seq ?_
    refine c_region ?_
    have hw0 : wrongF L t n = 0 := by omega
    obtain ⟨hmem, hl1, hl4, ht0, ht1, hn0, hn1⟩ := wrong_inv hw0
    refine seq_yl hF (wn_none rfl) rfl rfl (yl_move hF rfl rfl) ?_
    clear hF; intro a hF
    refine seq_yl hF (wn_none rfl) rfl rfl (yl_move hF rfl rfl) ?_
    clear hF; intro a hF
    refine seq_yl hF (wn_none rfl) rfl rfl (yl_move hF rfl rfl) ?_
    clear hF; intro a hF
    replace hF := fr_seti (b' := ((t.toNat : Nat) : Int)) hF (by omega)
    have hlt_hx41 : t.toNat < (L).length := by first | omega | (simp; done) | (simp; omega)
    obtain ⟨ad42, rfl⟩ := rd_some (hS.rdRo 1 rfl) hlt_hx41
    obtain ⟨x41, hx41⟩ := get_some hlt_hx41
    have hb_x41 := hmem x41 (List.mem_of_getElem? hx41)
    refine seq_yl hF (wn_none rfl) rfl rfl (yl_indexAddr hF rfl rfl rfl (fun _ => run_idx' sl26 sz36 (hS.rdRo 1 rfl) hlt_hx41)) ?_
    clear hF; intro a hF
    refine seq_yl hF (wn_none rfl) rfl rfl (yl_fieldAddr hF rfl rfl (fun w => run_fa fo36_2)) ?_
    clear hF; intro a hF
    refine seq_yl hF (wn_none rfl) rfl rfl (yl_loadAt hF rfl rfl ag3 (fun _ h => rd_cell (j := 2) (enc := enc36) (by subst h; exact hS.rdRo 1 rfl) enc36_len hx41 rfl rfl)) ?_
    clear hF; intro a hF
    refine seq_yl hF (wn_none rfl) rfl rfl (yl_bin hF rfl rfl rfl rfl (fun _ => run_gtr)) ?_
    clear hF; intro a hF
    refine wpList_nil ?_
    refine then_n ?_
    refine c_cond hF rfl (fun hc43 => ?_) (fun hc43 => ?_)
    · first | (replace hc43 := of_decide_eq_true hc43) | (replace hc43 := of_decide_eq_false (bnot_t hc43)) | (subst hc43) | (replace hc43 := bnot_t hc43; subst hc43) | (replace hc43 := bnot_t hc43) | skip
      refine c_seq ?_
      refine c_region ?_
      refine seq_yl hF (wn_none rfl) rfl rfl (yl_move hF rfl rfl) ?_
      clear hF; intro a hF
      refine seq_yl hF (wn_none rfl) rfl rfl (yl_assign hF rfl rfl) ?_
      clear hF; intro a hF
      refine seq_yl hF (wn_none rfl) rfl rfl (yl_assign hF rfl rfl) ?_
      clear hF; intro a hF
      refine wpList_nil ?_
      refine then_n ?_
      refine wp_ret ?_
      refine then_r ?_
      refine ret_tt hF rfl rfl rfl ?_
      have hF0 : unF L t n = (L, 4) := by unfold unF; rw [if_pos hw0, atG_get hx41]; first | rw [if_pos (by omega)] | rw [if_neg (by omega)]
      rw [hF0]
      exact ⟨_, rfl, _, rfl, (hS.sub [0] (by decide) (by first | rfl | simp) (by simp))⟩
    · first | (replace hc43 := of_decide_eq_false hc43) | (replace hc43 := of_decide_eq_true (bnot_f hc43)) | (subst hc43) | (replace hc43 := bnot_f hc43; subst hc43) | (replace hc43 := bnot_f hc43) | skip
      refine wp_skip ?_
      refine then_n ?_
      refine c_seq ?_
      refine c_region ?_
      refine seq_yl hF (wn_none rfl) rfl rfl (yl_move hF rfl rfl) ?_
      clear hF; intro a hF
      refine seq_yl hF (wn_none rfl) rfl rfl (yl_move hF rfl rfl) ?_
      clear hF; intro a hF
      replace hF := fr_seti (b' := ((t.toNat : Nat) : Int)) hF (by omega)
      have hlt_hx44 : t.toNat < (L).length := by first | omega | (simp; done) | (simp; omega)
      obtain ⟨ad45, rfl⟩ := rd_some (hS.rdRow 0 rfl) hlt_hx44
      obtain ⟨x44, hx44⟩ := get_some hlt_hx44
      have hb_x44 := hmem x44 (List.mem_of_getElem? hx44)
      refine seq_yl hF (wn_none rfl) rfl rfl (yl_indexAddr hF rfl rfl rfl (fun _ => run_idx' sl26 sz36 (hS.rdRow 0 rfl) hlt_hx44)) ?_
      clear hF; intro a hF
      refine seq_yl hF (wn_none rfl) rfl rfl (yl_fieldAddr hF rfl rfl (fun w => run_fa fo36_2)) ?_
      clear hF; intro a hF
      refine seq_yl hF (wn_none rfl) rfl rfl (yl_loadAt hF rfl rfl ag3 (fun _ h => rd_cell (j := 2) (enc := enc36) (by subst h; exact hS.rdRow 0 rfl) enc36_len hx44 rfl rfl)) ?_
      clear hF; intro a hF
      refine seq_yl hF (wn_none rfl) rfl rfl (yl_move hF rfl rfl) ?_
      clear hF; intro a hF
      refine seq_yl hF (wn_none rfl) rfl rfl (yl_bin hF rfl rfl rfl rfl (fun _ => run_sub (by simp only [okG] at *; refine ⟨?_, ?_⟩ <;> omega))) ?_
      clear hF; intro a hF
      refine seq_yl hF (wn_none rfl) rfl rfl (yl_indexAddr hF rfl rfl rfl (fun _ => run_idx' sl26 sz36 (hS.rdRow 0 rfl) hlt_hx44)) ?_
      clear hF; intro a hF
      refine seq_yl hF (wn_none rfl) rfl rfl (yl_fieldAddr hF rfl rfl (fun w => run_fa fo36_2)) ?_
      clear hF; intro a hF
      refine seq_wp (wn_none rfl) (wp_storeAt (j := 2) (enc := enc36) (z' := (E36.mk (x44.f0) (x44.f1) (((x44.f2) - (n))))) hF hS rfl rfl rfl rfl 0 rfl sz3 (by simp [Value.cells, Value.oneCell']) enc36_len hx44 (by simp [Value.cells]) rfl ?_)
      clear hF hS; intro a w hF hS
      refine wpList_nil ?_
      refine then_n ?_
      refine c_seq ?_
      refine c_region ?_
      refine seq_yl hF (wn_none rfl) rfl rfl (yl_move hF rfl rfl) ?_
      clear hF; intro a hF
      refine seq_yl hF (wn_none rfl) rfl rfl (yl_assign hF rfl rfl) ?_
      clear hF; intro a hF
      refine seq_yl hF (wn_none rfl) rfl rfl (yl_assign hF rfl rfl) ?_
      clear hF; intro a hF
      refine wpList_nil ?_
      refine then_n ?_
      refine wp_ret ?_
      refine ret_tt hF rfl rfl rfl ?_
      have hxx : x41 = x44 := Option.some.inj (hx41.symm.trans hx44)
      have hxx0 := congrArg E36.f0 hxx
      have hxx2 := congrArg E36.f2 hxx
      have hF0 : unF L t n = ((L.set t.toNat (E36.mk (x44.f0) (x44.f1) (((x44.f2) - (n))))), 0) := by unfold unF; rw [if_pos hw0, atG_get hx44]; first | rw [if_pos (by omega)] | rw [if_neg (by omega)]
      rw [hF0]
      exact ⟨_, rfl, _, rfl, (hS.sub [0] (by decide) (by first | rfl | simp) (by simp))⟩

theorem excess_any (x : E36) (w0 : World) (hi : i64 (x.f2 - x.f1)) :
    Fn Try.prog 17 #[.agg #[.int .i64 x.f0, .int .i64 x.f1, .int .i64 x.f2]] w0 (fun v w' => v = .int .i64 (exF x) ∧ Sat w0 w' []) := by
  refine c_enter (N := 13) (l := [_]) Try.func17 rfl rfl (fun a w hF hS => ?_)
  refine c_seq ?_
  refine c_region ?_
  refine seq_wp (wn_none rfl) (wp_box (cs := #[_, _, _]) hF hS rfl rfl rfl rfl rfl ?_)
  clear hF hS; intro a w g46 hF hS
  refine seq_yl hF (wn_none rfl) rfl rfl (yl_assign hF rfl rfl) ?_
  clear hF; intro a hF
  refine wpList_nil ?_
  refine then_n ?_
  refine c_seq ?_
  refine c_seq ?_
  refine c_region ?_
  refine seq_yl hF (wn_none rfl) rfl rfl (yl_fieldAddr hF rfl rfl (fun w => by kernel_rfl : ∀ w, (Instr.fieldAt 36 (.pointer (some ⟨g46, 0, none⟩)) 2).run Try.prog w = .ok (.pointer (some ⟨g46, 2, none⟩)) w)) ?_
  clear hF; intro a hF
  refine seq_yl hF (wn_none rfl) rfl rfl (yl_load (fun _ h => h ▸ hS) hF rfl rfl 0 rfl ag3 rfl) ?_
  clear hF; intro a hF
  refine seq_yl hF (wn_none rfl) rfl rfl (yl_fieldAddr hF rfl rfl (fun w => by kernel_rfl : ∀ w, (Instr.fieldAt 36 (.pointer (some ⟨g46, 0, none⟩)) 1).run Try.prog w = .ok (.pointer (some ⟨g46, 1, none⟩)) w)) ?_
  clear hF; intro a hF
  refine seq_yl hF (wn_none rfl) rfl rfl (yl_load (fun _ h => h ▸ hS) hF rfl rfl 0 rfl ag3 rfl) ?_
  clear hF; intro a hF
  refine seq_yl hF (wn_none rfl) rfl rfl (yl_bin hF rfl rfl rfl rfl (fun _ => run_leq)) ?_
  clear hF; intro a hF
  refine wpList_nil ?_
  refine then_n ?_
  refine c_cond hF rfl (fun hc47 => ?_) (fun hc47 => ?_)
  · first | (replace hc47 := of_decide_eq_true hc47) | (replace hc47 := of_decide_eq_false (bnot_t hc47)) | (subst hc47) | (replace hc47 := bnot_t hc47; subst hc47) | (replace hc47 := bnot_t hc47) | skip
    refine c_seq ?_
    refine c_region ?_
    refine seq_yl hF (wn_none rfl) rfl rfl (yl_assign hF rfl rfl) ?_
    clear hF; intro a hF
    refine wpList_nil ?_
    refine then_n ?_
    refine wp_ret ?_
    refine then_r ?_
    refine ret_t hF rfl rfl ?_
    exact ⟨_, rfl, congrArg (Value.int .i64) (by unfold exF; first | rw [if_pos (by assumption)] | rw [if_neg (by assumption)]), (hS.sub [] (by decide) (by first | rfl | simp) (by simp))⟩
  · first | (replace hc47 := of_decide_eq_false hc47) | (replace hc47 := of_decide_eq_true (bnot_f hc47)) | (subst hc47) | (replace hc47 := bnot_f hc47; subst hc47) | (replace hc47 := bnot_f hc47) | skip
    refine wp_skip ?_
    refine then_n ?_
    refine c_seq ?_
    refine c_region ?_
    refine seq_yl hF (wn_none rfl) rfl rfl (yl_fieldAddr hF rfl rfl (fun w => by kernel_rfl : ∀ w, (Instr.fieldAt 36 (.pointer (some ⟨g46, 0, none⟩)) 2).run Try.prog w = .ok (.pointer (some ⟨g46, 2, none⟩)) w)) ?_
    clear hF; intro a hF
    refine seq_yl hF (wn_none rfl) rfl rfl (yl_load (fun _ h => h ▸ hS) hF rfl rfl 0 rfl ag3 rfl) ?_
    clear hF; intro a hF
    refine seq_yl hF (wn_none rfl) rfl rfl (yl_fieldAddr hF rfl rfl (fun w => by kernel_rfl : ∀ w, (Instr.fieldAt 36 (.pointer (some ⟨g46, 0, none⟩)) 1).run Try.prog w = .ok (.pointer (some ⟨g46, 1, none⟩)) w)) ?_
    clear hF; intro a hF
    refine seq_yl hF (wn_none rfl) rfl rfl (yl_load (fun _ h => h ▸ hS) hF rfl rfl 0 rfl ag3 rfl) ?_
    clear hF; intro a hF
    refine seq_yl hF (wn_none rfl) rfl rfl (yl_bin hF rfl rfl rfl rfl (fun _ => run_sub hi)) ?_
    clear hF; intro a hF
    refine seq_yl hF (wn_none rfl) rfl rfl (yl_assign hF rfl rfl) ?_
    clear hF; intro a hF
    refine wpList_nil ?_
    refine then_n ?_
    refine wp_ret ?_
    refine ret_t hF rfl rfl ?_
    exact ⟨_, rfl, congrArg (Value.int .i64) (by unfold exF; first | rw [if_pos (by assumption)] | rw [if_neg (by assumption)]), (hS.sub [] (by decide) (by first | rfl | simp) (by simp))⟩

theorem excess2_any (x : E36) (w0 : World) (hi : i64 (x.f2 - x.f1)) :
    Fn Try.prog 18 #[.agg #[.int .i64 x.f0, .int .i64 x.f1, .int .i64 x.f2]] w0 (fun v w' => v = .int .i64 (exF x) ∧ Sat w0 w' []) := by
  refine c_enter (N := 13) (l := [_]) Try.func18 rfl rfl (fun a w hF hS => ?_)
  refine c_seq ?_
  refine c_region ?_
  refine seq_wp (wn_none rfl) (wp_box (cs := #[_, _, _]) hF hS rfl rfl rfl rfl rfl ?_)
  clear hF hS; intro a w g48 hF hS
  refine seq_yl hF (wn_none rfl) rfl rfl (yl_assign hF rfl rfl) ?_
  clear hF; intro a hF
  refine wpList_nil ?_
  refine then_n ?_
  refine c_seq ?_
  refine c_seq ?_
  refine c_region ?_
  refine seq_yl hF (wn_none rfl) rfl rfl (yl_fieldAddr hF rfl rfl (fun w => by kernel_rfl : ∀ w, (Instr.fieldAt 36 (.pointer (some ⟨g48, 0, none⟩)) 2).run Try.prog w = .ok (.pointer (some ⟨g48, 2, none⟩)) w)) ?_
  clear hF; intro a hF
  refine seq_yl hF (wn_none rfl) rfl rfl (yl_load (fun _ h => h ▸ hS) hF rfl rfl 0 rfl ag3 rfl) ?_
  clear hF; intro a hF
  refine seq_yl hF (wn_none rfl) rfl rfl (yl_fieldAddr hF rfl rfl (fun w => by kernel_rfl : ∀ w, (Instr.fieldAt 36 (.pointer (some ⟨g48, 0, none⟩)) 1).run Try.prog w = .ok (.pointer (some ⟨g48, 1, none⟩)) w)) ?_
  clear hF; intro a hF
  refine seq_yl hF (wn_none rfl) rfl rfl (yl_load (fun _ h => h ▸ hS) hF rfl rfl 0 rfl ag3 rfl) ?_
  clear hF; intro a hF
  refine seq_yl hF (wn_none rfl) rfl rfl (yl_bin hF rfl rfl rfl rfl (fun _ => run_leq)) ?_
  clear hF; intro a hF
  refine wpList_nil ?_
  refine then_n ?_
  refine c_cond hF rfl (fun hc49 => ?_) (fun hc49 => ?_)
  · first | (replace hc49 := of_decide_eq_true hc49) | (replace hc49 := of_decide_eq_false (bnot_t hc49)) | (subst hc49) | (replace hc49 := bnot_t hc49; subst hc49) | (replace hc49 := bnot_t hc49) | skip
    refine c_seq ?_
    refine c_region ?_
    refine seq_yl hF (wn_none rfl) rfl rfl (yl_assign hF rfl rfl) ?_
    clear hF; intro a hF
    refine wpList_nil ?_
    refine then_n ?_
    refine wp_ret ?_
    refine then_r ?_
    refine ret_t hF rfl rfl ?_
    exact ⟨_, rfl, congrArg (Value.int .i64) (by unfold exF; first | rw [if_pos (by assumption)] | rw [if_neg (by assumption)]), (hS.sub [] (by decide) (by first | rfl | simp) (by simp))⟩
  · first | (replace hc49 := of_decide_eq_false hc49) | (replace hc49 := of_decide_eq_true (bnot_f hc49)) | (subst hc49) | (replace hc49 := bnot_f hc49; subst hc49) | (replace hc49 := bnot_f hc49) | skip
    refine wp_skip ?_
    refine then_n ?_
    refine c_seq ?_
    refine c_region ?_
    refine seq_yl hF (wn_none rfl) rfl rfl (yl_fieldAddr hF rfl rfl (fun w => by kernel_rfl : ∀ w, (Instr.fieldAt 36 (.pointer (some ⟨g48, 0, none⟩)) 2).run Try.prog w = .ok (.pointer (some ⟨g48, 2, none⟩)) w)) ?_
    clear hF; intro a hF
    refine seq_yl hF (wn_none rfl) rfl rfl (yl_load (fun _ h => h ▸ hS) hF rfl rfl 0 rfl ag3 rfl) ?_
    clear hF; intro a hF
    refine seq_yl hF (wn_none rfl) rfl rfl (yl_fieldAddr hF rfl rfl (fun w => by kernel_rfl : ∀ w, (Instr.fieldAt 36 (.pointer (some ⟨g48, 0, none⟩)) 1).run Try.prog w = .ok (.pointer (some ⟨g48, 1, none⟩)) w)) ?_
    clear hF; intro a hF
    refine seq_yl hF (wn_none rfl) rfl rfl (yl_load (fun _ h => h ▸ hS) hF rfl rfl 0 rfl ag3 rfl) ?_
    clear hF; intro a hF
    refine seq_yl hF (wn_none rfl) rfl rfl (yl_bin hF rfl rfl rfl rfl (fun _ => run_sub hi)) ?_
    clear hF; intro a hF
    refine seq_yl hF (wn_none rfl) rfl rfl (yl_assign hF rfl rfl) ?_
    clear hF; intro a hF
    refine wpList_nil ?_
    refine then_n ?_
    refine wp_ret ?_
    refine ret_t hF rfl rfl ?_
    exact ⟨_, rfl, congrArg (Value.int .i64) (by unfold exF; first | rw [if_pos (by assumption)] | rw [if_neg (by assumption)]), (hS.sub [] (by decide) (by first | rfl | simp) (by simp))⟩

theorem over_any (v : Value) (L : List E36) (t n : Int) (w0 : World) (hv : Rd w0 3 v (L).length (cells enc36 (L))) (hL : L.length ≤ 1000000) :
    Fn Try.prog 22 #[v, .int .i64 t, .int .i64 n] w0 (fun v w' => v = .int .i64 (ovF L t n) ∧ Sat w0 w' []) := by
  obtain ⟨Av, cv, rfl⟩ := Rd.form hv
  refine c_enter (N := 40) (l := [_, _, _]) Try.func22 rfl rfl (fun a w hF hS => ?_)
  replace hS := hS.addRo hv
  refine c_seq ?_
  refine c_region ?_
  refine seq_yl hF (wn_none rfl) rfl rfl (yl_assign hF rfl rfl) ?_
  clear hF; intro a hF
  refine wpList_nil ?_
  refine then_n ?_
  refine c_seq ?_
  refine c_seq ?_
  refine ha_startS hS [0] 20 (by kernel_rfl) ?_; clear hS; intro w hS
  have hSS := hS.sub [0] (by decide) rfl (by simp)
  refine ha_yl 0 hF rfl rfl rfl (by kernel_rfl) (by kernel_rfl) (by kernel_rfl) (by decide) (fun _ _ _ h => h) (wn_none rfl) (.inr hSS) (yl_move hF rfl rfl) ?_
  clear hF; intro a hF
  refine ha_yl 1 hF rfl rfl rfl (by kernel_rfl) (by kernel_rfl) (by kernel_rfl) (by decide) (fun _ _ _ h => h) (wn_none rfl) (.inr hSS) (yl_move hF rfl rfl) ?_
  clear hF; intro a hF
  refine ha_yl 2 hF rfl rfl rfl (by kernel_rfl) (by kernel_rfl) (by kernel_rfl) (by decide) (fun _ _ _ h => h) (wn_none rfl) (.inr hSS) (yl_move hF rfl rfl) ?_
  clear hF; intro a hF
  refine ha_one 3 (by kernel_rfl) rfl (wn_none rfl) (wp_call (vs := [_, _, _]) hF rfl rfl rfl rfl cf28 (wrong_any _ L (t) (n) _ (hS.rdRo 0 rfl) (by first | omega | (simp; done) | (simp; omega) | (rw [chF_len]; first | omega | (simp; done) | (simp; omega)) | (rw [unF_len]; first | omega | (simp; done) | (simp; omega)))) ?_)
  clear hF; rintro _ w ⟨rfl, hS1⟩ a hF
  replace hS := hS.callB hS1 rfl; clear hS1
  replace hSS := hS.sub [0] (by decide) rfl (by simp)
  refine ⟨.inr hSS, ?_⟩
  refine ha_yl 4 hF rfl rfl rfl (by kernel_rfl) (by kernel_rfl) (by kernel_rfl) (by decide) (fun _ _ _ h => h) (wn_none rfl) (.inr hSS) (yl_bin hF rfl rfl rfl rfl (fun _ => run_neq)) ?_
  clear hF; intro a hF
  refine ha_yl 5 hF rfl rfl rfl (by kernel_rfl) (by kernel_rfl) (by kernel_rfl) (by decide) (fun _ _ _ h => h) (wn_none rfl) (.inr hSS) (yl_move hF rfl rfl) ?_
  clear hF; intro a hF
  refine fr_split hF (fun hc50 hF => ?_) (fun hc50 hF => ?_)
  · first | (replace hc50 := of_decide_eq_true hc50) | (replace hc50 := of_decide_eq_false (bnot_t hc50)) | (subst hc50) | (replace hc50 := bnot_t hc50; subst hc50) | (replace hc50 := bnot_t hc50) | skip
    refine ha_skip 6 hF rfl rfl rfl (by kernel_rfl) (by kernel_rfl) (by kernel_rfl) (by decide) (fun _ _ _ h => h) (wn_f hF rfl rfl rfl rfl) (.inr hSS) ?_
    clear hF; intro a hF
    refine ha_skip 7 hF rfl rfl rfl (by kernel_rfl) (by kernel_rfl) (by kernel_rfl) (by decide) (fun _ _ _ h => h) (wn_f hF rfl rfl rfl rfl) (.inr hSS) ?_
    clear hF; intro a hF
    refine ha_skip 8 hF rfl rfl rfl (by kernel_rfl) (by kernel_rfl) (by kernel_rfl) (by decide) (fun _ _ _ h => h) (wn_f hF rfl rfl rfl rfl) (.inr hSS) ?_
    clear hF; intro a hF
    refine ha_skip 9 hF rfl rfl rfl (by kernel_rfl) (by kernel_rfl) (by kernel_rfl) (by decide) (fun _ _ _ h => h) (wn_f hF rfl rfl rfl rfl) (.inr hSS) ?_
    clear hF; intro a hF
    refine ha_skip 10 hF rfl rfl rfl (by kernel_rfl) (by kernel_rfl) (by kernel_rfl) (by decide) (fun _ _ _ h => h) (wn_f hF rfl rfl rfl rfl) (.inr hSS) ?_
    clear hF; intro a hF
    refine ha_skip 11 hF rfl rfl rfl (by kernel_rfl) (by kernel_rfl) (by kernel_rfl) (by decide) (fun _ _ _ h => h) (wn_f hF rfl rfl rfl rfl) (.inr hSS) ?_
    clear hF; intro a hF
    refine ha_skip 12 hF rfl rfl rfl (by kernel_rfl) (by kernel_rfl) (by kernel_rfl) (by decide) (fun _ _ _ h => h) (wn_f hF rfl rfl rfl rfl) (.inr hSS) ?_
    clear hF; intro a hF
    refine ha_skip 13 hF rfl rfl rfl (by kernel_rfl) (by kernel_rfl) (by kernel_rfl) (by decide) (fun _ _ _ h => h) (wn_f hF rfl rfl rfl rfl) (.inr hSS) ?_
    clear hF; intro a hF
    refine ha_skip 14 hF rfl rfl rfl (by kernel_rfl) (by kernel_rfl) (by kernel_rfl) (by decide) (fun _ _ _ h => h) (wn_f hF rfl rfl rfl rfl) (.inr hSS) ?_
    clear hF; intro a hF
    refine ha_skip 15 hF rfl rfl rfl (by kernel_rfl) (by kernel_rfl) (by kernel_rfl) (by decide) (fun _ _ _ h => h) (wn_f hF rfl rfl rfl rfl) (.inr hSS) ?_
    clear hF; intro a hF
    refine ha_skip 16 hF rfl rfl rfl (by kernel_rfl) (by kernel_rfl) (by kernel_rfl) (by decide) (fun _ _ _ h => h) (wn_f hF rfl rfl rfl rfl) (.inr hSS) ?_
    clear hF; intro a hF
    refine ha_skip 17 hF rfl rfl rfl (by kernel_rfl) (by kernel_rfl) (by kernel_rfl) (by decide) (fun _ _ _ h => h) (wn_f hF rfl rfl rfl rfl) (.inr hSS) ?_
    clear hF; intro a hF
    refine ha_skip 18 hF rfl rfl rfl (by kernel_rfl) (by kernel_rfl) (by kernel_rfl) (by decide) (fun _ _ _ h => h) (wn_f hF rfl rfl rfl rfl) (.inr hSS) ?_
    clear hF; intro a hF
    refine ha_yl 19 hF rfl rfl rfl (by kernel_rfl) (by kernel_rfl) (by kernel_rfl) (by decide) (fun _ _ _ h => h) (wn_none rfl) (.inr hSS) (yl_pick (u := _) (v := undef) hF rfl rfl (fun _ => rfl) (fun h => by cases h)) ?_
    clear hF; intro a hF
    refine ha_done (by kernel_rfl) ?_ _
    refine then_n ?_
    refine c_cond_t hF rfl ?_
    refine c_seq ?_
    refine c_region ?_
    refine seq_yl hF (wn_none rfl) rfl rfl (yl_assign hF rfl rfl) ?_
    clear hF; intro a hF
    refine wpList_nil ?_
    refine then_n ?_
    refine wp_ret ?_
    refine then_r ?_
    refine ret_t hF rfl rfl ?_
    exact ⟨_, rfl, congrArg (Value.int .i64) (by unfold ovF; first | rw [if_neg (by assumption)] | (rw [if_pos hw0, atG_get rfl]; omega)), (hS.sub [] (by decide) (by first | rfl | simp) (by simp))⟩
  · first | (replace hc50 := of_decide_eq_false hc50) | (replace hc50 := of_decide_eq_true (bnot_f hc50)) | (subst hc50) | (replace hc50 := bnot_f hc50; subst hc50) | (replace hc50 := bnot_f hc50) | skip
    have hw0 : wrongF L t n = 0 := by omega
    obtain ⟨hmem, hl1, hl4, ht0, ht1, hn0, hn1⟩ := wrong_inv hw0
    refine ha_yl 6 hF rfl rfl rfl (by kernel_rfl) (by kernel_rfl) (by kernel_rfl) (by decide) (fun _ _ _ h => h) (wn_t hF rfl rfl rfl rfl) (.inr hSS) (yl_move hF rfl rfl) ?_
    clear hF; intro a hF
    refine ha_yl 7 hF rfl rfl rfl (by kernel_rfl) (by kernel_rfl) (by kernel_rfl) (by decide) (fun _ _ _ h => h) (wn_t hF rfl rfl rfl rfl) (.inr hSS) (yl_move hF rfl rfl) ?_
    clear hF; intro a hF
    refine ha_yl 8 hF rfl rfl rfl (by kernel_rfl) (by kernel_rfl) (by kernel_rfl) (by decide) (fun _ _ _ h => h) (wn_t hF rfl rfl rfl rfl) (.inr hSS) (yl_move hF rfl rfl) ?_
    clear hF; intro a hF
    replace hF := fr_seti (b' := ((t.toNat : Nat) : Int)) hF (by omega)
    have hlt_hx51 : t.toNat < (L).length := by first | omega | (simp; done) | (simp; omega)
    obtain ⟨ad52, rfl⟩ := rd_some (hS.rdRo 0 rfl) hlt_hx51
    obtain ⟨x51, hx51⟩ := get_some hlt_hx51
    have hb_x51 := hmem x51 (List.mem_of_getElem? hx51)
    refine ha_yl 9 hF rfl rfl rfl (by kernel_rfl) (by kernel_rfl) (by kernel_rfl) (by decide) (fun _ _ _ h => h) (wn_t hF rfl rfl rfl rfl) (.inr hSS) (yl_indexAddr hF rfl rfl rfl (fun _ => run_idx' sl26 sz36 (hS.rdRo 0 rfl) hlt_hx51)) ?_
    clear hF; intro a hF
    refine ha_yl 10 hF rfl rfl rfl (by kernel_rfl) (by kernel_rfl) (by kernel_rfl) (by decide) (fun _ _ _ h => h) (wn_t hF rfl rfl rfl rfl) (.inr hSS) (yl_fieldAddr hF rfl rfl (fun w => run_fa0 fo36_0)) ?_
    clear hF; intro a hF
    refine ha_yl 12 hF rfl rfl rfl (by kernel_rfl) (by kernel_rfl) (by kernel_rfl) (by decide) (fun _ _ _ h => h) (wn_t hF rfl rfl rfl rfl) (.inr hSS) (yl_move hF rfl rfl) ?_
    clear hF; intro a hF
    refine ha_yl 13 hF rfl rfl rfl (by kernel_rfl) (by kernel_rfl) (by kernel_rfl) (by decide) (fun _ _ _ h => h) (wn_t hF rfl rfl rfl rfl) (.inr hSS) (yl_move hF rfl rfl) ?_
    clear hF; intro a hF
    replace hF := fr_seti (b' := ((t.toNat : Nat) : Int)) hF (by omega)
    refine ha_yl 14 hF rfl rfl rfl (by kernel_rfl) (by kernel_rfl) (by kernel_rfl) (by decide) (fun _ _ _ h => h) (wn_t hF rfl rfl rfl rfl) (.inr hSS) (yl_indexAddr hF rfl rfl rfl (fun _ => run_idx' sl26 sz36 (hS.rdRo 0 rfl) hlt_hx51)) ?_
    clear hF; intro a hF
    refine ha_yl 15 hF rfl rfl rfl (by kernel_rfl) (by kernel_rfl) (by kernel_rfl) (by decide) (fun _ _ _ h => h) (wn_t hF rfl rfl rfl rfl) (.inr hSS) (yl_fieldAddr hF rfl rfl (fun w => run_fa fo36_2)) ?_
    clear hF; intro a hF
    refine ha_ld 11 hF rfl rfl rfl (by kernel_rfl) (by kernel_rfl) (by kernel_rfl) (by decide) (by kernel_rfl) (by kernel_rfl) (fun _ _ _ h => h) (wn_t hF rfl rfl rfl rfl) hSS (yl_loadAt hF rfl rfl ag3 (fun _ h => rd_cell0 (enc := enc36) (Sat.rdRo h 0 rfl) enc36_len hx51 rfl rfl)) ?_
    clear hF; intro a hF
    refine ha_ld 16 hF rfl rfl rfl (by kernel_rfl) (by kernel_rfl) (by kernel_rfl) (by decide) (by kernel_rfl) (by kernel_rfl) (fun _ _ _ h => h) (wn_t hF rfl rfl rfl rfl) hSS (yl_loadAt hF rfl rfl ag3 (fun _ h => rd_cell (j := 2) (enc := enc36) (Sat.rdRo h 0 rfl) enc36_len hx51 rfl rfl)) ?_
    clear hF; intro a hF
    refine ha_yl 17 hF rfl rfl rfl (by kernel_rfl) (by kernel_rfl) (by kernel_rfl) (by decide) (fun _ _ _ h => h) (wn_t hF rfl rfl rfl rfl) (.inr hSS) (yl_bin hF rfl rfl rfl rfl (fun _ => run_sub (by simp only [okG] at *; refine ⟨?_, ?_⟩ <;> omega))) ?_
    clear hF; intro a hF
    refine ha_yl 18 hF rfl rfl rfl (by kernel_rfl) (by kernel_rfl) (by kernel_rfl) (by decide) (fun _ _ _ h => h) (wn_t hF rfl rfl rfl rfl) (.inr hSS) (yl_bin hF rfl rfl rfl rfl (fun _ => run_leq)) ?_
    clear hF; intro a hF
    refine ha_yl 19 hF rfl rfl rfl (by kernel_rfl) (by kernel_rfl) (by kernel_rfl) (by decide) (fun _ _ _ h => h) (wn_none rfl) (.inr hSS) (yl_pick (u := _) (v := undef) hF rfl rfl (fun h => by cases h) (fun _ => rfl)) ?_
    clear hF; intro a hF
    refine ha_done (by kernel_rfl) ?_ _
    refine then_n ?_
    refine c_cond hF rfl (fun hc53 => ?_) (fun hc53 => ?_)
    · first | (replace hc53 := of_decide_eq_true hc53) | (replace hc53 := of_decide_eq_false (bnot_t hc53)) | (subst hc53) | (replace hc53 := bnot_t hc53; subst hc53) | (replace hc53 := bnot_t hc53) | skip
      refine c_seq ?_
      refine c_region ?_
      refine seq_yl hF (wn_none rfl) rfl rfl (yl_assign hF rfl rfl) ?_
      clear hF; intro a hF
      refine wpList_nil ?_
      refine then_n ?_
      refine wp_ret ?_
      refine then_r ?_
      refine ret_t hF rfl rfl ?_
      exact ⟨_, rfl, congrArg (Value.int .i64) (by unfold ovF; first | rw [if_neg (by assumption)] | (rw [if_pos hw0, atG_get hx51]; omega)), (hS.sub [] (by decide) (by first | rfl | simp) (by simp))⟩
    · first | (replace hc53 := of_decide_eq_false hc53) | (replace hc53 := of_decide_eq_true (bnot_f hc53)) | (subst hc53) | (replace hc53 := bnot_f hc53; subst hc53) | (replace hc53 := bnot_f hc53) | skip
      refine wp_skip ?_
      refine then_n ?_
      refine c_seq ?_
      refine ha_startS hS [0] 14 (by kernel_rfl) ?_; clear hS; intro w hS
      have hSS := hS.sub [0] (by decide) rfl (by simp)
      refine ha_yl 0 hF rfl rfl rfl (by kernel_rfl) (by kernel_rfl) (by kernel_rfl) (by decide) (fun _ _ _ h => h) (wn_none rfl) (.inr hSS) (yl_move hF rfl rfl) ?_
      clear hF; intro a hF
      refine ha_yl 1 hF rfl rfl rfl (by kernel_rfl) (by kernel_rfl) (by kernel_rfl) (by decide) (fun _ _ _ h => h) (wn_none rfl) (.inr hSS) (yl_move hF rfl rfl) ?_
      clear hF; intro a hF
      refine ha_yl 2 hF rfl rfl rfl (by kernel_rfl) (by kernel_rfl) (by kernel_rfl) (by decide) (fun _ _ _ h => h) (wn_none rfl) (.inr hSS) (yl_move hF rfl rfl) ?_
      clear hF; intro a hF
      replace hF := fr_seti (b' := ((t.toNat : Nat) : Int)) hF (by omega)
      refine ha_yl 3 hF rfl rfl rfl (by kernel_rfl) (by kernel_rfl) (by kernel_rfl) (by decide) (fun _ _ _ h => h) (wn_none rfl) (.inr hSS) (yl_indexAddr hF rfl rfl rfl (fun _ => run_idx' sl26 sz36 (hS.rdRo 0 rfl) hlt_hx51)) ?_
      clear hF; intro a hF
      refine ha_yl 4 hF rfl rfl rfl (by kernel_rfl) (by kernel_rfl) (by kernel_rfl) (by decide) (fun _ _ _ h => h) (wn_none rfl) (.inr hSS) (yl_fieldAddr hF rfl rfl (fun w => run_fa0 fo36_0)) ?_
      clear hF; intro a hF
      refine ha_yl 6 hF rfl rfl rfl (by kernel_rfl) (by kernel_rfl) (by kernel_rfl) (by decide) (fun _ _ _ h => h) (wn_none rfl) (.inr hSS) (yl_move hF rfl rfl) ?_
      clear hF; intro a hF
      refine ha_yl 7 hF rfl rfl rfl (by kernel_rfl) (by kernel_rfl) (by kernel_rfl) (by decide) (fun _ _ _ h => h) (wn_none rfl) (.inr hSS) (yl_move hF rfl rfl) ?_
      clear hF; intro a hF
      replace hF := fr_seti (b' := ((t.toNat : Nat) : Int)) hF (by omega)
      refine ha_yl 8 hF rfl rfl rfl (by kernel_rfl) (by kernel_rfl) (by kernel_rfl) (by decide) (fun _ _ _ h => h) (wn_none rfl) (.inr hSS) (yl_indexAddr hF rfl rfl rfl (fun _ => run_idx' sl26 sz36 (hS.rdRo 0 rfl) hlt_hx51)) ?_
      clear hF; intro a hF
      refine ha_yl 9 hF rfl rfl rfl (by kernel_rfl) (by kernel_rfl) (by kernel_rfl) (by decide) (fun _ _ _ h => h) (wn_none rfl) (.inr hSS) (yl_fieldAddr hF rfl rfl (fun w => run_fa fo36_2)) ?_
      clear hF; intro a hF
      refine ha_ld 5 hF rfl rfl rfl (by kernel_rfl) (by kernel_rfl) (by kernel_rfl) (by decide) (by kernel_rfl) (by kernel_rfl) (fun _ _ _ h => h) (wn_none rfl) hSS (yl_loadAt hF rfl rfl ag3 (fun _ h => rd_cell0 (enc := enc36) (Sat.rdRo h 0 rfl) enc36_len hx51 rfl rfl)) ?_
      clear hF; intro a hF
      refine ha_ld 10 hF rfl rfl rfl (by kernel_rfl) (by kernel_rfl) (by kernel_rfl) (by decide) (by kernel_rfl) (by kernel_rfl) (fun _ _ _ h => h) (wn_none rfl) hSS (yl_loadAt hF rfl rfl ag3 (fun _ h => rd_cell (j := 2) (enc := enc36) (Sat.rdRo h 0 rfl) enc36_len hx51 rfl rfl)) ?_
      clear hF; intro a hF
      refine ha_yl 11 hF rfl rfl rfl (by kernel_rfl) (by kernel_rfl) (by kernel_rfl) (by decide) (fun _ _ _ h => h) (wn_none rfl) (.inr hSS) (yl_bin hF rfl rfl rfl rfl (fun _ => run_sub (by simp only [okG] at *; refine ⟨?_, ?_⟩ <;> omega))) ?_
      clear hF; intro a hF
      refine ha_yl 12 hF rfl rfl rfl (by kernel_rfl) (by kernel_rfl) (by kernel_rfl) (by decide) (fun _ _ _ h => h) (wn_none rfl) (.inr hSS) (yl_bin hF rfl rfl rfl rfl (fun _ => run_sub (by simp only [okG] at *; refine ⟨?_, ?_⟩ <;> omega))) ?_
      clear hF; intro a hF
      refine ha_yl 13 hF rfl rfl rfl (by kernel_rfl) (by kernel_rfl) (by kernel_rfl) (by decide) (fun _ _ _ h => h) (wn_none rfl) (.inr hSS) (yl_assign hF rfl rfl) ?_
      clear hF; intro a hF
      refine ha_done (by kernel_rfl) ?_ _
      refine then_n ?_
      refine wp_ret ?_
      refine ret_t hF rfl rfl ?_
      exact ⟨_, rfl, congrArg (Value.int .i64) (by unfold ovF; first | rw [if_neg (by assumption)] | (rw [if_pos hw0, atG_get hx51]; omega)), (hS.sub [] (by decide) (by first | rfl | simp) (by simp))⟩

end Go.Proofs.Ytiifpgkdgnoafaa

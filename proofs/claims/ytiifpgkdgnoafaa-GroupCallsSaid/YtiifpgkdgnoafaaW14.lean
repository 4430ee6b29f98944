/- walks, printed by wip/gen -/
import Derived.Test.YtiifpgkdgnoafaaW2
import Derived.Test.YtiifpgkdgnoafaaW3
import Derived.Test.YtiifpgkdgnoafaaP7
namespace Go.Proofs.Ytiifpgkdgnoafaa
open Go.RowKit
set_option linter.unusedVariables false
set_option linter.unusedSimpArgs false

theorem charged_any (v : Value) (L : List E36) (x : E36) (t n : Int) (ht : 0 ≤ t) (hx : L[t.toNat]? = some x) (w0 : World) (hv : Rd w0 3 v (L).length (cells enc36 (L))) (hL : L.length ≤ 1000000) :
    Fn Try.prog 29 #[v, .int .i64 t, .int .i64 n] w0 (fun v w' => ∃ v1, v = v1 ∧ Sat w0 w' [.row 36 3 v1 (L.set t.toNat (E36.mk x.f0 x.f1 n)).length (cells enc36 (L.set t.toNat (E36.mk x.f0 x.f1 n)))]) := by
  have htl := (List.getElem?_eq_some_iff.1 hx).1
  obtain ⟨Av, cv, rfl⟩ := Rd.form hv
  refine c_enter (N := 16) (l := [_, _, _]) Try.func29 rfl rfl (fun a w hF hS => ?_)
  replace hS := hS.addRo hv
  refine c_seq ?_
  refine c_region ?_
  refine seq_yl hF (wn_none rfl) rfl rfl (yl_assign hF rfl rfl) ?_
  clear hF; intro a hF
  refine wpList_nil ?_
  refine then_n ?_
  refine c_seq ?_
  refine c_region ?_
  refine seq_yl hF (wn_none rfl) rfl rfl (yl_move hF rfl rfl) ?_
  clear hF; intro a hF
  refine seq_wp (wn_none rfl) (wp_app0 (enc := enc36) hF hS rfl rfl rfl rfl rfl sl26 inf36 rfl (by decide) (hS.rdRo 0 rfl) enc36_one (by decide) (by first | omega | (simp only [List.length_append, List.length_cons, List.length_nil]; omega)) ?_)
  clear hF hS; intro a w v349 hF hS
  obtain ⟨Av349, cv349, rfl⟩ := hS.form 0 rfl
  refine seq_yl hF (wn_none rfl) rfl rfl (yl_assign hF rfl rfl) ?_
  clear hF; intro a hF
  refine wpList_nil ?_
  refine then_n ?_
  refine c_seq ?_
  refine c_region ?_
  refine seq_yl hF (wn_none rfl) rfl rfl (yl_move hF rfl rfl) ?_
  clear hF; intro a hF
  refine seq_yl hF (wn_none rfl) rfl rfl (yl_move hF rfl rfl) ?_
  clear hF; intro a hF
  replace hF := fr_seti (b' := ((t.toNat : Nat) : Int)) hF (by omega)
  refine seq_yl hF (wn_none rfl) rfl rfl (yl_move hF rfl rfl) ?_
  clear hF; intro a hF
  have hlt_hx350 : t.toNat < (L).length := by first | omega | (simp; done) | (simp; omega)
  obtain ⟨ad351, rfl⟩ := rd_some (hS.rdRow 0 rfl) hlt_hx350
  obtain ⟨x350, hx350⟩ := get_some hlt_hx350
  refine seq_yl hF (wn_none rfl) rfl rfl (yl_indexAddr hF rfl rfl rfl (fun _ => run_idx' sl26 sz36 (hS.rdRow 0 rfl) hlt_hx350)) ?_
  clear hF; intro a hF
  refine seq_yl hF (wn_none rfl) rfl rfl (yl_fieldAddr hF rfl rfl (fun w => run_fa fo36_2)) ?_
  clear hF; intro a hF
  refine seq_wp (wn_none rfl) (wp_storeAt (j := 2) (enc := enc36) (z' := (E36.mk (x350.f0) (x350.f1) (n))) hF hS rfl rfl rfl rfl 0 rfl sz3 (by simp [Value.cells, Value.oneCell']) enc36_len hx350 (by simp [Value.cells]) rfl ?_)
  clear hF hS; intro a w hF hS
  refine wpList_nil ?_
  refine then_n ?_
  refine c_seq ?_
  refine c_region ?_
  refine seq_yl hF (wn_none rfl) rfl rfl (yl_move hF rfl rfl) ?_
  clear hF; intro a hF
  refine seq_yl hF (wn_none rfl) rfl rfl (yl_assign hF rfl rfl) ?_
  clear hF; intro a hF
  refine wpList_nil ?_
  refine then_n ?_
  refine wp_ret ?_
  refine ret_t hF rfl rfl ?_
  refine ⟨_, rfl, _, rfl, ?_⟩
  have hxx := Option.some.inj (hx350.symm.trans hx)
  rw [← hxx]
  exact (hS.sub [0] (by decide) (by first | rfl | simp) (by simp))

theorem charge2_any (v0 : Value) (L : List E36) (t n : Int) (w0 : World) (hv : Rd w0 3 v0 (L).length (cells enc36 (L))) (hL : L.length ≤ 1000000) :
    Fn Try.prog 12 #[v0, .int .i64 t, .int .i64 n] w0 (fun v w' => ∃ v1, v = .tuple #[v1, .int .i64 (chF L t n).2] ∧ (Sat w0 w' [.row 36 3 v1 ((chF L t n).1).length (cells enc36 ((chF L t n).1))] ∨ (v1 = v0 ∧ (chF L t n).1 = L ∧ Sat w0 w' []))) := by
  obtain ⟨Av0, cv0, rfl⟩ := Rd.form hv
  refine c_enter (N := 56) (l := [_, _, _]) Try.func12 rfl rfl (fun a w hF hS => ?_)
  replace hS := hS.addRo hv
  refine c_seq ?_
  refine c_region ?_
  refine seq_yl hF (wn_none rfl) rfl rfl (yl_assign hF rfl rfl) ?_
  clear hF; intro a hF
  refine seq_yl hF (wn_none rfl) rfl rfl (yl_assign hF rfl rfl) ?_
  clear hF; intro a hF
  refine wpList_nil ?_
  refine then_n ?_
  refine c_seq ?_
  refine wp_block ?_
  refine c_seq ?_
  refine c_region ?_
  refine seq_yl hF (wn_none rfl) rfl rfl (yl_move hF rfl rfl) ?_
  clear hF; intro a hF
  refine seq_wp (wn_none rfl) (wp_call (vs := [_]) hF rfl rfl rfl rfl cf20 (check2_any _ L _ (hS.rdRo 0 rfl) (by first | omega | (simp; done) | (simp; omega) | (rw [chF_len]; first | omega | (simp; done) | (simp; omega)) | (rw [unF_len]; first | omega | (simp; done) | (simp; omega)))) ?_)
  clear hF; rintro _ w ⟨rfl, hS1⟩ a hF
  replace hS := hS.callB hS1 rfl; clear hS1
  refine seq_yl hF (wn_none rfl) rfl rfl (yl_un hF rfl rfl (fun _ => run_not)) ?_
  clear hF; intro a hF
  refine seq_yl hF (wn_none rfl) rfl rfl (yl_assign hF rfl rfl) ?_
  clear hF; intro a hF
  refine wpList_nil ?_
  refine then_n ?_
  refine c_cond hF rfl (fun hc352 => ?_) (fun hc352 => ?_)
  · first | (replace hc352 := of_decide_eq_true hc352) | (replace hc352 := of_decide_eq_false (bnot_t hc352)) | (subst hc352) | (replace hc352 := bnot_t hc352; subst hc352) | (replace hc352 := bnot_t hc352) | skip
    refine c_seq ?_
    refine c_region ?_
    refine seq_yl hF (wn_none rfl) rfl rfl (yl_move hF rfl rfl) ?_
    clear hF; intro a hF
    refine seq_yl hF (wn_none rfl) rfl rfl (yl_assign hF rfl rfl) ?_
    clear hF; intro a hF
    refine seq_yl hF (wn_none rfl) rfl rfl (yl_assign hF rfl rfl) ?_
    clear hF; intro a hF
    refine wpList_nil ?_
    refine then_n ?_
    refine wp_ret ?_
    refine inb_r ?_
    refine then_r ?_
    refine ret_tt hF rfl rfl rfl ?_
    have hF0 := chF_w (wrong_1 (t := t) (n := n) (by assumption)) (by decide)
    rw [hF0]
    exact ⟨_, rfl, _, rfl, .inr ⟨rfl, rfl, (hS.sub [] (by decide) (by first | rfl | simp) (by simp))⟩⟩
  · first | (replace hc352 := of_decide_eq_false hc352) | (replace hc352 := of_decide_eq_true (bnot_f hc352)) | (subst hc352) | (replace hc352 := bnot_f hc352; subst hc352) | (replace hc352 := bnot_f hc352) | skip
    refine c_seq ?_
    refine c_region ?_
    refine seq_yl hF (wn_none rfl) rfl rfl (yl_move hF rfl rfl) ?_
    clear hF; intro a hF
    refine seq_yl hF (wn_none rfl) rfl rfl (yl_bin hF rfl rfl rfl rfl (fun _ => run_lss)) ?_
    clear hF; intro a hF
    refine seq_yl hF (wn_none rfl) rfl rfl (yl_move hF rfl rfl) ?_
    clear hF; intro a hF
    refine fr_split hF (fun hc353 hF => ?_) (fun hc353 hF => ?_)
    · first | (replace hc353 := of_decide_eq_true hc353) | (replace hc353 := of_decide_eq_false (bnot_t hc353)) | (subst hc353) | (replace hc353 := bnot_t hc353; subst hc353) | (replace hc353 := bnot_t hc353) | skip
      refine seq_skip hF (wn_f hF rfl rfl rfl rfl) rfl rfl ?_
      clear hF; intro a hF
      refine seq_skip hF (wn_f hF rfl rfl rfl rfl) rfl rfl ?_
      clear hF; intro a hF
      refine seq_skip hF (wn_f hF rfl rfl rfl rfl) rfl rfl ?_
      clear hF; intro a hF
      refine seq_skip hF (wn_f hF rfl rfl rfl rfl) rfl rfl ?_
      clear hF; intro a hF
      refine seq_yl hF (wn_none rfl) rfl rfl (yl_pick (u := _) (v := undef) hF rfl rfl (fun _ => rfl) (fun h => by cases h)) ?_
      clear hF; intro a hF
      refine seq_yl hF (wn_none rfl) rfl rfl (yl_move hF rfl rfl) ?_
      clear hF; intro a hF
      refine seq_skip hF (wn_f hF rfl rfl rfl rfl) rfl rfl ?_
      clear hF; intro a hF
      refine seq_skip hF (wn_f hF rfl rfl rfl rfl) rfl rfl ?_
      clear hF; intro a hF
      refine seq_yl hF (wn_none rfl) rfl rfl (yl_pick (u := _) (v := undef) hF rfl rfl (fun _ => rfl) (fun h => by cases h)) ?_
      clear hF; intro a hF
      refine seq_yl hF (wn_none rfl) rfl rfl (yl_move hF rfl rfl) ?_
      clear hF; intro a hF
      refine seq_skip hF (wn_f hF rfl rfl rfl rfl) rfl rfl ?_
      clear hF; intro a hF
      refine seq_skip hF (wn_f hF rfl rfl rfl rfl) rfl rfl ?_
      clear hF; intro a hF
      refine seq_yl hF (wn_none rfl) rfl rfl (yl_pick (u := _) (v := undef) hF rfl rfl (fun _ => rfl) (fun h => by cases h)) ?_
      clear hF; intro a hF
      refine seq_yl hF (wn_none rfl) rfl rfl (yl_assign hF rfl rfl) ?_
      clear hF; intro a hF
      refine wpList_nil ?_
      refine then_n ?_
      refine c_cond_t hF rfl ?_
      refine c_seq ?_
      refine c_region ?_
      refine seq_yl hF (wn_none rfl) rfl rfl (yl_move hF rfl rfl) ?_
      clear hF; intro a hF
      refine seq_yl hF (wn_none rfl) rfl rfl (yl_assign hF rfl rfl) ?_
      clear hF; intro a hF
      refine seq_yl hF (wn_none rfl) rfl rfl (yl_assign hF rfl rfl) ?_
      clear hF; intro a hF
      refine wpList_nil ?_
      refine then_n ?_
      refine wp_ret ?_
      refine inb_r ?_
      refine then_r ?_
      refine ret_tt hF rfl rfl rfl ?_
      have hF0 := chF_w (wrong_2 (t := t) (n := n) (by assumption) (by omega)) (by decide)
      rw [hF0]
      exact ⟨_, rfl, _, rfl, .inr ⟨rfl, rfl, (hS.sub [] (by decide) (by first | rfl | simp) (by simp))⟩⟩
    · first | (replace hc353 := of_decide_eq_false hc353) | (replace hc353 := of_decide_eq_true (bnot_f hc353)) | (subst hc353) | (replace hc353 := bnot_f hc353; subst hc353) | (replace hc353 := bnot_f hc353) | skip
      refine seq_yl hF (wn_t hF rfl rfl rfl rfl) rfl rfl (yl_move hF rfl rfl) ?_
      clear hF; intro a hF
      refine seq_yl hF (wn_t hF rfl rfl rfl rfl) rfl rfl (yl_move hF rfl rfl) ?_
      clear hF; intro a hF
      refine seq_yl hF (wn_t hF rfl rfl rfl rfl) rfl rfl (yl_len hF rfl rfl (fun _ => run_lenRd sl26 (hS.rdRo 0 rfl))) ?_
      clear hF; intro a hF
      refine seq_yl hF (wn_t hF rfl rfl rfl rfl) rfl rfl (yl_bin hF rfl rfl rfl rfl (fun _ => run_geq)) ?_
      clear hF; intro a hF
      refine seq_yl hF (wn_none rfl) rfl rfl (yl_pick (u := _) (v := undef) hF rfl rfl (fun h => by cases h) (fun _ => rfl)) ?_
      clear hF; intro a hF
      refine seq_yl hF (wn_none rfl) rfl rfl (yl_move hF rfl rfl) ?_
      clear hF; intro a hF
      refine fr_split hF (fun hc354 hF => ?_) (fun hc354 hF => ?_)
      · first | (replace hc354 := of_decide_eq_true hc354) | (replace hc354 := of_decide_eq_false (bnot_t hc354)) | (subst hc354) | (replace hc354 := bnot_t hc354; subst hc354) | (replace hc354 := bnot_t hc354) | skip
        refine seq_skip hF (wn_f hF rfl rfl rfl rfl) rfl rfl ?_
        clear hF; intro a hF
        refine seq_skip hF (wn_f hF rfl rfl rfl rfl) rfl rfl ?_
        clear hF; intro a hF
        refine seq_yl hF (wn_none rfl) rfl rfl (yl_pick (u := _) (v := undef) hF rfl rfl (fun _ => rfl) (fun h => by cases h)) ?_
        clear hF; intro a hF
        refine seq_yl hF (wn_none rfl) rfl rfl (yl_move hF rfl rfl) ?_
        clear hF; intro a hF
        refine seq_skip hF (wn_f hF rfl rfl rfl rfl) rfl rfl ?_
        clear hF; intro a hF
        refine seq_skip hF (wn_f hF rfl rfl rfl rfl) rfl rfl ?_
        clear hF; intro a hF
        refine seq_yl hF (wn_none rfl) rfl rfl (yl_pick (u := _) (v := undef) hF rfl rfl (fun _ => rfl) (fun h => by cases h)) ?_
        clear hF; intro a hF
        refine seq_yl hF (wn_none rfl) rfl rfl (yl_assign hF rfl rfl) ?_
        clear hF; intro a hF
        refine wpList_nil ?_
        refine then_n ?_
        refine c_cond_t hF rfl ?_
        refine c_seq ?_
        refine c_region ?_
        refine seq_yl hF (wn_none rfl) rfl rfl (yl_move hF rfl rfl) ?_
        clear hF; intro a hF
        refine seq_yl hF (wn_none rfl) rfl rfl (yl_assign hF rfl rfl) ?_
        clear hF; intro a hF
        refine seq_yl hF (wn_none rfl) rfl rfl (yl_assign hF rfl rfl) ?_
        clear hF; intro a hF
        refine wpList_nil ?_
        refine then_n ?_
        refine wp_ret ?_
        refine inb_r ?_
        refine then_r ?_
        refine ret_tt hF rfl rfl rfl ?_
        have hF0 := chF_w (wrong_2 (t := t) (n := n) (by assumption) (by omega)) (by decide)
        rw [hF0]
        exact ⟨_, rfl, _, rfl, .inr ⟨rfl, rfl, (hS.sub [] (by decide) (by first | rfl | simp) (by simp))⟩⟩
      · first | (replace hc354 := of_decide_eq_false hc354) | (replace hc354 := of_decide_eq_true (bnot_f hc354)) | (subst hc354) | (replace hc354 := bnot_f hc354; subst hc354) | (replace hc354 := bnot_f hc354) | skip
        refine seq_yl hF (wn_t hF rfl rfl rfl rfl) rfl rfl (yl_move hF rfl rfl) ?_
        clear hF; intro a hF
        refine seq_yl hF (wn_t hF rfl rfl rfl rfl) rfl rfl (yl_bin hF rfl rfl rfl rfl (fun _ => run_lss)) ?_
        clear hF; intro a hF
        refine seq_yl hF (wn_none rfl) rfl rfl (yl_pick (u := _) (v := undef) hF rfl rfl (fun h => by cases h) (fun _ => rfl)) ?_
        clear hF; intro a hF
        refine seq_yl hF (wn_none rfl) rfl rfl (yl_move hF rfl rfl) ?_
        clear hF; intro a hF
        refine fr_split hF (fun hc355 hF => ?_) (fun hc355 hF => ?_)
        · first | (replace hc355 := of_decide_eq_true hc355) | (replace hc355 := of_decide_eq_false (bnot_t hc355)) | (subst hc355) | (replace hc355 := bnot_t hc355; subst hc355) | (replace hc355 := bnot_t hc355) | skip
          refine seq_skip hF (wn_f hF rfl rfl rfl rfl) rfl rfl ?_
          clear hF; intro a hF
          refine seq_skip hF (wn_f hF rfl rfl rfl rfl) rfl rfl ?_
          clear hF; intro a hF
          refine seq_yl hF (wn_none rfl) rfl rfl (yl_pick (u := _) (v := undef) hF rfl rfl (fun _ => rfl) (fun h => by cases h)) ?_
          clear hF; intro a hF
          refine seq_yl hF (wn_none rfl) rfl rfl (yl_assign hF rfl rfl) ?_
          clear hF; intro a hF
          refine wpList_nil ?_
          refine then_n ?_
          refine c_cond_t hF rfl ?_
          refine c_seq ?_
          refine c_region ?_
          refine seq_yl hF (wn_none rfl) rfl rfl (yl_move hF rfl rfl) ?_
          clear hF; intro a hF
          refine seq_yl hF (wn_none rfl) rfl rfl (yl_assign hF rfl rfl) ?_
          clear hF; intro a hF
          refine seq_yl hF (wn_none rfl) rfl rfl (yl_assign hF rfl rfl) ?_
          clear hF; intro a hF
          refine wpList_nil ?_
          refine then_n ?_
          refine wp_ret ?_
          refine inb_r ?_
          refine then_r ?_
          refine ret_tt hF rfl rfl rfl ?_
          have hF0 := chF_w (wrong_2 (t := t) (n := n) (by assumption) (by omega)) (by decide)
          rw [hF0]
          exact ⟨_, rfl, _, rfl, .inr ⟨rfl, rfl, (hS.sub [] (by decide) (by first | rfl | simp) (by simp))⟩⟩
        · first | (replace hc355 := of_decide_eq_false hc355) | (replace hc355 := of_decide_eq_true (bnot_f hc355)) | (subst hc355) | (replace hc355 := bnot_f hc355; subst hc355) | (replace hc355 := bnot_f hc355) | skip
          refine seq_yl hF (wn_t hF rfl rfl rfl rfl) rfl rfl (yl_move hF rfl rfl) ?_
          clear hF; intro a hF
          refine seq_yl hF (wn_t hF rfl rfl rfl rfl) rfl rfl (yl_bin hF rfl rfl rfl rfl (fun _ => run_gtr)) ?_
          clear hF; intro a hF
          refine seq_yl hF (wn_none rfl) rfl rfl (yl_pick (u := _) (v := undef) hF rfl rfl (fun h => by cases h) (fun _ => rfl)) ?_
          clear hF; intro a hF
          refine seq_yl hF (wn_none rfl) rfl rfl (yl_assign hF rfl rfl) ?_
          clear hF; intro a hF
          refine wpList_nil ?_
          refine then_n ?_
          refine c_cond hF rfl (fun hc356 => ?_) (fun hc356 => ?_)
          · first | (replace hc356 := of_decide_eq_true hc356) | (replace hc356 := of_decide_eq_false (bnot_t hc356)) | (subst hc356) | (replace hc356 := bnot_t hc356; subst hc356) | (replace hc356 := bnot_t hc356) | skip
            refine c_seq ?_
            refine c_region ?_
            refine seq_yl hF (wn_none rfl) rfl rfl (yl_move hF rfl rfl) ?_
            clear hF; intro a hF
            refine seq_yl hF (wn_none rfl) rfl rfl (yl_assign hF rfl rfl) ?_
            clear hF; intro a hF
            refine seq_yl hF (wn_none rfl) rfl rfl (yl_assign hF rfl rfl) ?_
            clear hF; intro a hF
            refine wpList_nil ?_
            refine then_n ?_
            refine wp_ret ?_
            refine inb_r ?_
            refine then_r ?_
            refine ret_tt hF rfl rfl rfl ?_
            have hF0 := chF_w (wrong_2 (t := t) (n := n) (by assumption) (by omega)) (by decide)
            rw [hF0]
            exact ⟨_, rfl, _, rfl, .inr ⟨rfl, rfl, (hS.sub [] (by decide) (by first | rfl | simp) (by simp))⟩⟩
          · first | (replace hc356 := of_decide_eq_false hc356) | (replace hc356 := of_decide_eq_true (bnot_f hc356)) | (subst hc356) | (replace hc356 := bnot_f hc356; subst hc356) | (replace hc356 := bnot_f hc356) | skip
            refine c_seq ?_
            refine ha_startS hS [0] 14 (by kernel_rfl) ?_; clear hS; intro w hS
            have hSS := hS.sub [0] (by decide) rfl (by simp)
            have hw0 : wrongF L t n = 0 := (wrong_0 (by assumption) (by omega)).symm
            obtain ⟨hmem, hl1, hl4, ht0, ht1, hn0, hn1⟩ := wrong_inv hw0
            refine ha_yl 0 hF rfl rfl rfl (by kernel_rfl) (by kernel_rfl) (by kernel_rfl) (by decide) (fun _ _ _ h => h) (wn_none rfl) (.inr hSS) (yl_move hF rfl rfl) ?_
            clear hF; intro a hF
            refine ha_yl 1 hF rfl rfl rfl (by kernel_rfl) (by kernel_rfl) (by kernel_rfl) (by decide) (fun _ _ _ h => h) (wn_none rfl) (.inr hSS) (yl_move hF rfl rfl) ?_
            clear hF; intro a hF
            refine ha_yl 2 hF rfl rfl rfl (by kernel_rfl) (by kernel_rfl) (by kernel_rfl) (by decide) (fun _ _ _ h => h) (wn_none rfl) (.inr hSS) (yl_move hF rfl rfl) ?_
            clear hF; intro a hF
            replace hF := fr_seti (b' := ((t.toNat : Nat) : Int)) hF (by omega)
            have hlt_hx357 : t.toNat < (L).length := by first | omega | (simp; done) | (simp; omega)
            obtain ⟨ad358, rfl⟩ := rd_some (hS.rdRo 0 rfl) hlt_hx357
            obtain ⟨x357, hx357⟩ := get_some hlt_hx357
            have hb_x357 := hmem x357 (List.mem_of_getElem? hx357)
            refine ha_yl 3 hF rfl rfl rfl (by kernel_rfl) (by kernel_rfl) (by kernel_rfl) (by decide) (fun _ _ _ h => h) (wn_none rfl) (.inr hSS) (yl_indexAddr hF rfl rfl rfl (fun _ => run_idx' sl26 sz36 (hS.rdRo 0 rfl) hlt_hx357)) ?_
            clear hF; intro a hF
            refine ha_yl 4 hF rfl rfl rfl (by kernel_rfl) (by kernel_rfl) (by kernel_rfl) (by decide) (fun _ _ _ h => h) (wn_none rfl) (.inr hSS) (yl_fieldAddr hF rfl rfl (fun w => run_fa0 fo36_0)) ?_
            clear hF; intro a hF
            refine ha_yl 6 hF rfl rfl rfl (by kernel_rfl) (by kernel_rfl) (by kernel_rfl) (by decide) (fun _ _ _ h => h) (wn_none rfl) (.inr hSS) (yl_move hF rfl rfl) ?_
            clear hF; intro a hF
            refine ha_yl 7 hF rfl rfl rfl (by kernel_rfl) (by kernel_rfl) (by kernel_rfl) (by decide) (fun _ _ _ h => h) (wn_none rfl) (.inr hSS) (yl_move hF rfl rfl) ?_
            clear hF; intro a hF
            replace hF := fr_seti (b' := ((t.toNat : Nat) : Int)) hF (by omega)
            refine ha_yl 8 hF rfl rfl rfl (by kernel_rfl) (by kernel_rfl) (by kernel_rfl) (by decide) (fun _ _ _ h => h) (wn_none rfl) (.inr hSS) (yl_indexAddr hF rfl rfl rfl (fun _ => run_idx' sl26 sz36 (hS.rdRo 0 rfl) hlt_hx357)) ?_
            clear hF; intro a hF
            refine ha_yl 9 hF rfl rfl rfl (by kernel_rfl) (by kernel_rfl) (by kernel_rfl) (by decide) (fun _ _ _ h => h) (wn_none rfl) (.inr hSS) (yl_fieldAddr hF rfl rfl (fun w => run_fa fo36_2)) ?_
            clear hF; intro a hF
            refine ha_ld 5 hF rfl rfl rfl (by kernel_rfl) (by kernel_rfl) (by kernel_rfl) (by decide) (by kernel_rfl) (by kernel_rfl) (fun _ _ _ h => h) (wn_none rfl) hSS (yl_loadAt hF rfl rfl ag3 (fun _ h => rd_cell0 (enc := enc36) (Sat.rdRo h 0 rfl) enc36_len hx357 rfl rfl)) ?_
            clear hF; intro a hF
            refine ha_ld 10 hF rfl rfl rfl (by kernel_rfl) (by kernel_rfl) (by kernel_rfl) (by decide) (by kernel_rfl) (by kernel_rfl) (fun _ _ _ h => h) (wn_none rfl) hSS (yl_loadAt hF rfl rfl ag3 (fun _ h => rd_cell (j := 2) (enc := enc36) (Sat.rdRo h 0 rfl) enc36_len hx357 rfl rfl)) ?_
            clear hF; intro a hF
            refine ha_yl 11 hF rfl rfl rfl (by kernel_rfl) (by kernel_rfl) (by kernel_rfl) (by decide) (fun _ _ _ h => h) (wn_none rfl) (.inr hSS) (yl_bin hF rfl rfl rfl rfl (fun _ => run_sub (by simp only [okG] at *; refine ⟨?_, ?_⟩ <;> omega))) ?_
            clear hF; intro a hF
            refine ha_yl 12 hF rfl rfl rfl (by kernel_rfl) (by kernel_rfl) (by kernel_rfl) (by decide) (fun _ _ _ h => h) (wn_none rfl) (.inr hSS) (yl_bin hF rfl rfl rfl rfl (fun _ => run_gtr)) ?_
            clear hF; intro a hF
            refine ha_yl 13 hF rfl rfl rfl (by kernel_rfl) (by kernel_rfl) (by kernel_rfl) (by decide) (fun _ _ _ h => h) (wn_none rfl) (.inr hSS) (yl_assign hF rfl rfl) ?_
            clear hF; intro a hF
            refine ha_done (by kernel_rfl) ?_ _
            refine then_n ?_
            refine c_cond hF rfl (fun hc359 => ?_) (fun hc359 => ?_)
            · first | (replace hc359 := of_decide_eq_true hc359) | (replace hc359 := of_decide_eq_false (bnot_t hc359)) | (subst hc359) | (replace hc359 := bnot_t hc359; subst hc359) | (replace hc359 := bnot_t hc359) | skip
              refine c_seq ?_
              refine c_region ?_
              refine seq_yl hF (wn_none rfl) rfl rfl (yl_move hF rfl rfl) ?_
              clear hF; intro a hF
              refine seq_yl hF (wn_none rfl) rfl rfl (yl_assign hF rfl rfl) ?_
              clear hF; intro a hF
              refine seq_yl hF (wn_none rfl) rfl rfl (yl_assign hF rfl rfl) ?_
              clear hF; intro a hF
              refine wpList_nil ?_
              refine then_n ?_
              refine wp_ret ?_
              refine inb_r ?_
              refine then_r ?_
              refine ret_tt hF rfl rfl rfl ?_
              have hF0 := chF_3 hw0 hx357 (by omega)
              rw [hF0]
              exact ⟨_, rfl, _, rfl, .inr ⟨rfl, rfl, (hS.sub [] (by decide) (by first | rfl | simp) (by simp))⟩⟩
            · first | (replace hc359 := of_decide_eq_false hc359) | (replace hc359 := of_decide_eq_true (bnot_f hc359)) | (subst hc359) | (replace hc359 := bnot_f hc359; subst hc359) | (replace hc359 := bnot_f hc359) | skip
              refine wp_skip ?_
              refine inb_n ?_
              refine then_n ?_
              refine c_seq ?_
              refine c_region ?_
              refine seq_yl hF (wn_none rfl) rfl rfl (yl_move hF rfl rfl) ?_
              clear hF; intro a hF
              refine seq_yl hF (wn_none rfl) rfl rfl (yl_move hF rfl rfl) ?_
              clear hF; intro a hF
              refine seq_yl hF (wn_none rfl) rfl rfl (yl_move hF rfl rfl) ?_
              clear hF; intro a hF
              refine seq_yl hF (wn_none rfl) rfl rfl (yl_move hF rfl rfl) ?_
              clear hF; intro a hF
              replace hF := fr_seti (b' := ((t.toNat : Nat) : Int)) hF (by omega)
              refine seq_yl hF (wn_none rfl) rfl rfl (yl_indexAddr hF rfl rfl rfl (fun _ => run_idx' sl26 sz36 (hS.rdRo 0 rfl) hlt_hx357)) ?_
              clear hF; intro a hF
              refine seq_yl hF (wn_none rfl) rfl rfl (yl_fieldAddr hF rfl rfl (fun w => run_fa fo36_2)) ?_
              clear hF; intro a hF
              refine seq_yl hF (wn_none rfl) rfl rfl (yl_loadAt hF rfl rfl ag3 (fun _ h => rd_cell (j := 2) (enc := enc36) (by subst h; exact hS.rdRo 0 rfl) enc36_len hx357 rfl rfl)) ?_
              clear hF; intro a hF
              refine seq_yl hF (wn_none rfl) rfl rfl (yl_move hF rfl rfl) ?_
              clear hF; intro a hF
              refine seq_yl hF (wn_none rfl) rfl rfl (yl_bin hF rfl rfl rfl rfl (fun _ => run_add (by simp only [okG] at *; refine ⟨?_, ?_⟩ <;> omega))) ?_
              clear hF; intro a hF
              refine seq_wp (wn_none rfl) (wp_call (vs := [_, _, _]) hF rfl rfl rfl rfl cf29 (charged_any _ L x357 t (((x357.f2) + (n))) (by omega) hx357 _ (hS.rdRo 0 rfl) (by first | omega | (simp; done) | (simp; omega) | (rw [chF_len]; first | omega | (simp; done) | (simp; omega)) | (rw [unF_len]; first | omega | (simp; done) | (simp; omega)))) ?_)
              clear hF; rintro _ w ⟨v360, rfl, hS1⟩ a hF
              replace hS := hS.callB hS1 rfl; clear hS1
              obtain ⟨Av360, cv360, rfl⟩ := hS.form 0 rfl
              refine seq_yl hF (wn_none rfl) rfl rfl (yl_assign hF rfl rfl) ?_
              clear hF; intro a hF
              refine seq_yl hF (wn_none rfl) rfl rfl (yl_assign hF rfl rfl) ?_
              clear hF; intro a hF
              refine wpList_nil ?_
              refine then_n ?_
              refine wp_ret ?_
              refine ret_tt hF rfl rfl rfl ?_
              have hF0 := chF_0 hw0 hx357 (by omega)
              rw [hF0]
              exact ⟨_, rfl, _, rfl, .inl (hS.sub [0] (by decide) (by first | rfl | simp) (by simp))⟩

theorem uncharge2_any (v0 : Value) (L : List E36) (t n : Int) (w0 : World) (hv : Rd w0 3 v0 (L).length (cells enc36 (L))) (hL : L.length ≤ 1000000) :
    Fn Try.prog 14 #[v0, .int .i64 t, .int .i64 n] w0 (fun v w' => ∃ v1, v = .tuple #[v1, .int .i64 (unF L t n).2] ∧ (Sat w0 w' [.row 36 3 v1 ((unF L t n).1).length (cells enc36 ((unF L t n).1))] ∨ (v1 = v0 ∧ (unF L t n).1 = L ∧ Sat w0 w' []))) := by
  obtain ⟨Av0, cv0, rfl⟩ := Rd.form hv
  refine c_enter (N := 50) (l := [_, _, _]) Try.func14 rfl rfl (fun a w hF hS => ?_)
  replace hS := hS.addRo hv
  refine c_seq ?_
  refine c_region ?_
  refine seq_yl hF (wn_none rfl) rfl rfl (yl_assign hF rfl rfl) ?_
  clear hF; intro a hF
  refine seq_yl hF (wn_none rfl) rfl rfl (yl_assign hF rfl rfl) ?_
  clear hF; intro a hF
  refine wpList_nil ?_
  refine then_n ?_
  refine c_seq ?_
  refine wp_block ?_
  refine c_seq ?_
  refine c_region ?_
  refine seq_yl hF (wn_none rfl) rfl rfl (yl_move hF rfl rfl) ?_
  clear hF; intro a hF
  refine seq_wp (wn_none rfl) (wp_call (vs := [_]) hF rfl rfl rfl rfl cf20 (check2_any _ L _ (hS.rdRo 0 rfl) (by first | omega | (simp; done) | (simp; omega) | (rw [chF_len]; first | omega | (simp; done) | (simp; omega)) | (rw [unF_len]; first | omega | (simp; done) | (simp; omega)))) ?_)
  clear hF; rintro _ w ⟨rfl, hS1⟩ a hF
  replace hS := hS.callB hS1 rfl; clear hS1
  refine seq_yl hF (wn_none rfl) rfl rfl (yl_un hF rfl rfl (fun _ => run_not)) ?_
  clear hF; intro a hF
  refine seq_yl hF (wn_none rfl) rfl rfl (yl_assign hF rfl rfl) ?_
  clear hF; intro a hF
  refine wpList_nil ?_
  refine then_n ?_
  refine c_cond hF rfl (fun hc361 => ?_) (fun hc361 => ?_)
  · first | (replace hc361 := of_decide_eq_true hc361) | (replace hc361 := of_decide_eq_false (bnot_t hc361)) | (subst hc361) | (replace hc361 := bnot_t hc361; subst hc361) | (replace hc361 := bnot_t hc361) | skip
    refine c_seq ?_
    refine c_region ?_
    refine seq_yl hF (wn_none rfl) rfl rfl (yl_move hF rfl rfl) ?_
    clear hF; intro a hF
    refine seq_yl hF (wn_none rfl) rfl rfl (yl_assign hF rfl rfl) ?_
    clear hF; intro a hF
    refine seq_yl hF (wn_none rfl) rfl rfl (yl_assign hF rfl rfl) ?_
    clear hF; intro a hF
    refine wpList_nil ?_
    refine then_n ?_
    refine wp_ret ?_
    refine inb_r ?_
    refine then_r ?_
    refine ret_tt hF rfl rfl rfl ?_
    have hF0 := unF_w (wrong_1 (t := t) (n := n) (by assumption)) (by decide)
    rw [hF0]
    exact ⟨_, rfl, _, rfl, .inr ⟨rfl, rfl, (hS.sub [] (by decide) (by first | rfl | simp) (by simp))⟩⟩
  · first | (replace hc361 := of_decide_eq_false hc361) | (replace hc361 := of_decide_eq_true (bnot_f hc361)) | (subst hc361) | (replace hc361 := bnot_f hc361; subst hc361) | (replace hc361 := bnot_f hc361) | skip
    refine c_seq ?_
    refine c_region ?_
    refine seq_yl hF (wn_none rfl) rfl rfl (yl_move hF rfl rfl) ?_
    clear hF; intro a hF
    refine seq_yl hF (wn_none rfl) rfl rfl (yl_bin hF rfl rfl rfl rfl (fun _ => run_lss)) ?_
    clear hF; intro a hF
    refine seq_yl hF (wn_none rfl) rfl rfl (yl_move hF rfl rfl) ?_
    clear hF; intro a hF
    refine fr_split hF (fun hc362 hF => ?_) (fun hc362 hF => ?_)
    · first | (replace hc362 := of_decide_eq_true hc362) | (replace hc362 := of_decide_eq_false (bnot_t hc362)) | (subst hc362) | (replace hc362 := bnot_t hc362; subst hc362) | (replace hc362 := bnot_t hc362) | skip
      refine seq_skip hF (wn_f hF rfl rfl rfl rfl) rfl rfl ?_
      clear hF; intro a hF
      refine seq_skip hF (wn_f hF rfl rfl rfl rfl) rfl rfl ?_
      clear hF; intro a hF
      refine seq_skip hF (wn_f hF rfl rfl rfl rfl) rfl rfl ?_
      clear hF; intro a hF
      refine seq_skip hF (wn_f hF rfl rfl rfl rfl) rfl rfl ?_
      clear hF; intro a hF
      refine seq_yl hF (wn_none rfl) rfl rfl (yl_pick (u := _) (v := undef) hF rfl rfl (fun _ => rfl) (fun h => by cases h)) ?_
      clear hF; intro a hF
      refine seq_yl hF (wn_none rfl) rfl rfl (yl_move hF rfl rfl) ?_
      clear hF; intro a hF
      refine seq_skip hF (wn_f hF rfl rfl rfl rfl) rfl rfl ?_
      clear hF; intro a hF
      refine seq_skip hF (wn_f hF rfl rfl rfl rfl) rfl rfl ?_
      clear hF; intro a hF
      refine seq_yl hF (wn_none rfl) rfl rfl (yl_pick (u := _) (v := undef) hF rfl rfl (fun _ => rfl) (fun h => by cases h)) ?_
      clear hF; intro a hF
      refine seq_yl hF (wn_none rfl) rfl rfl (yl_move hF rfl rfl) ?_
      clear hF; intro a hF
      refine seq_skip hF (wn_f hF rfl rfl rfl rfl) rfl rfl ?_
      clear hF; intro a hF
      refine seq_skip hF (wn_f hF rfl rfl rfl rfl) rfl rfl ?_
      clear hF; intro a hF
      refine seq_yl hF (wn_none rfl) rfl rfl (yl_pick (u := _) (v := undef) hF rfl rfl (fun _ => rfl) (fun h => by cases h)) ?_
      clear hF; intro a hF
      refine seq_yl hF (wn_none rfl) rfl rfl (yl_assign hF rfl rfl) ?_
      clear hF; intro a hF
      refine wpList_nil ?_
      refine then_n ?_
      refine c_cond_t hF rfl ?_
      refine c_seq ?_
      refine c_region ?_
      refine seq_yl hF (wn_none rfl) rfl rfl (yl_move hF rfl rfl) ?_
      clear hF; intro a hF
      refine seq_yl hF (wn_none rfl) rfl rfl (yl_assign hF rfl rfl) ?_
      clear hF; intro a hF
      refine seq_yl hF (wn_none rfl) rfl rfl (yl_assign hF rfl rfl) ?_
      clear hF; intro a hF
      refine wpList_nil ?_
      refine then_n ?_
      refine wp_ret ?_
      refine inb_r ?_
      refine then_r ?_
      refine ret_tt hF rfl rfl rfl ?_
      have hF0 := unF_w (wrong_2 (t := t) (n := n) (by assumption) (by omega)) (by decide)
      rw [hF0]
      exact ⟨_, rfl, _, rfl, .inr ⟨rfl, rfl, (hS.sub [] (by decide) (by first | rfl | simp) (by simp))⟩⟩
    · first | (replace hc362 := of_decide_eq_false hc362) | (replace hc362 := of_decide_eq_true (bnot_f hc362)) | (subst hc362) | (replace hc362 := bnot_f hc362; subst hc362) | (replace hc362 := bnot_f hc362) | skip
      refine seq_yl hF (wn_t hF rfl rfl rfl rfl) rfl rfl (yl_move hF rfl rfl) ?_
      clear hF; intro a hF
      refine seq_yl hF (wn_t hF rfl rfl rfl rfl) rfl rfl (yl_move hF rfl rfl) ?_
      clear hF; intro a hF
      refine seq_yl hF (wn_t hF rfl rfl rfl rfl) rfl rfl (yl_len hF rfl rfl (fun _ => run_lenRd sl26 (hS.rdRo 0 rfl))) ?_
      clear hF; intro a hF
      refine seq_yl hF (wn_t hF rfl rfl rfl rfl) rfl rfl (yl_bin hF rfl rfl rfl rfl (fun _ => run_geq)) ?_
      clear hF; intro a hF
      refine seq_yl hF (wn_none rfl) rfl rfl (yl_pick (u := _) (v := undef) hF rfl rfl (fun h => by cases h) (fun _ => rfl)) ?_
      clear hF; intro a hF
      refine seq_yl hF (wn_none rfl) rfl rfl (yl_move hF rfl rfl) ?_
      clear hF; intro a hF
      refine fr_split hF (fun hc363 hF => ?_) (fun hc363 hF => ?_)
      · first | (replace hc363 := of_decide_eq_true hc363) | (replace hc363 := of_decide_eq_false (bnot_t hc363)) | (subst hc363) | (replace hc363 := bnot_t hc363; subst hc363) | (replace hc363 := bnot_t hc363) | skip
        refine seq_skip hF (wn_f hF rfl rfl rfl rfl) rfl rfl ?_
        clear hF; intro a hF
        refine seq_skip hF (wn_f hF rfl rfl rfl rfl) rfl rfl ?_
        clear hF; intro a hF
        refine seq_yl hF (wn_none rfl) rfl rfl (yl_pick (u := _) (v := undef) hF rfl rfl (fun _ => rfl) (fun h => by cases h)) ?_
        clear hF; intro a hF
        refine seq_yl hF (wn_none rfl) rfl rfl (yl_move hF rfl rfl) ?_
        clear hF; intro a hF
        refine seq_skip hF (wn_f hF rfl rfl rfl rfl) rfl rfl ?_
        clear hF; intro a hF
        refine seq_skip hF (wn_f hF rfl rfl rfl rfl) rfl rfl ?_
        clear hF; intro a hF
        refine seq_yl hF (wn_none rfl) rfl rfl (yl_pick (u := _) (v := undef) hF rfl rfl (fun _ => rfl) (fun h => by cases h)) ?_
        clear hF; intro a hF
        refine seq_yl hF (wn_none rfl) rfl rfl (yl_assign hF rfl rfl) ?_
        clear hF; intro a hF
        refine wpList_nil ?_
        refine then_n ?_
        refine c_cond_t hF rfl ?_
        refine c_seq ?_
        refine c_region ?_
        refine seq_yl hF (wn_none rfl) rfl rfl (yl_move hF rfl rfl) ?_
        clear hF; intro a hF
        refine seq_yl hF (wn_none rfl) rfl rfl (yl_assign hF rfl rfl) ?_
        clear hF; intro a hF
        refine seq_yl hF (wn_none rfl) rfl rfl (yl_assign hF rfl rfl) ?_
        clear hF; intro a hF
        refine wpList_nil ?_
        refine then_n ?_
        refine wp_ret ?_
        refine inb_r ?_
        refine then_r ?_
        refine ret_tt hF rfl rfl rfl ?_
        have hF0 := unF_w (wrong_2 (t := t) (n := n) (by assumption) (by omega)) (by decide)
        rw [hF0]
        exact ⟨_, rfl, _, rfl, .inr ⟨rfl, rfl, (hS.sub [] (by decide) (by first | rfl | simp) (by simp))⟩⟩
      · first | (replace hc363 := of_decide_eq_false hc363) | (replace hc363 := of_decide_eq_true (bnot_f hc363)) | (subst hc363) | (replace hc363 := bnot_f hc363; subst hc363) | (replace hc363 := bnot_f hc363) | skip
        refine seq_yl hF (wn_t hF rfl rfl rfl rfl) rfl rfl (yl_move hF rfl rfl) ?_
        clear hF; intro a hF
        refine seq_yl hF (wn_t hF rfl rfl rfl rfl) rfl rfl (yl_bin hF rfl rfl rfl rfl (fun _ => run_lss)) ?_
        clear hF; intro a hF
        refine seq_yl hF (wn_none rfl) rfl rfl (yl_pick (u := _) (v := undef) hF rfl rfl (fun h => by cases h) (fun _ => rfl)) ?_
        clear hF; intro a hF
        refine seq_yl hF (wn_none rfl) rfl rfl (yl_move hF rfl rfl) ?_
        clear hF; intro a hF
        refine fr_split hF (fun hc364 hF => ?_) (fun hc364 hF => ?_)
        · first | (replace hc364 := of_decide_eq_true hc364) | (replace hc364 := of_decide_eq_false (bnot_t hc364)) | (subst hc364) | (replace hc364 := bnot_t hc364; subst hc364) | (replace hc364 := bnot_t hc364) | skip
          refine seq_skip hF (wn_f hF rfl rfl rfl rfl) rfl rfl ?_
          clear hF; intro a hF
          refine seq_skip hF (wn_f hF rfl rfl rfl rfl) rfl rfl ?_
          clear hF; intro a hF
          refine seq_yl hF (wn_none rfl) rfl rfl (yl_pick (u := _) (v := undef) hF rfl rfl (fun _ => rfl) (fun h => by cases h)) ?_
          clear hF; intro a hF
          refine seq_yl hF (wn_none rfl) rfl rfl (yl_assign hF rfl rfl) ?_
          clear hF; intro a hF
          refine wpList_nil ?_
          refine then_n ?_
          refine c_cond_t hF rfl ?_
          refine c_seq ?_
          refine c_region ?_
          refine seq_yl hF (wn_none rfl) rfl rfl (yl_move hF rfl rfl) ?_
          clear hF; intro a hF
          refine seq_yl hF (wn_none rfl) rfl rfl (yl_assign hF rfl rfl) ?_
          clear hF; intro a hF
          refine seq_yl hF (wn_none rfl) rfl rfl (yl_assign hF rfl rfl) ?_
          clear hF; intro a hF
          refine wpList_nil ?_
          refine then_n ?_
          refine wp_ret ?_
          refine inb_r ?_
          refine then_r ?_
          refine ret_tt hF rfl rfl rfl ?_
          have hF0 := unF_w (wrong_2 (t := t) (n := n) (by assumption) (by omega)) (by decide)
          rw [hF0]
          exact ⟨_, rfl, _, rfl, .inr ⟨rfl, rfl, (hS.sub [] (by decide) (by first | rfl | simp) (by simp))⟩⟩
        · first | (replace hc364 := of_decide_eq_false hc364) | (replace hc364 := of_decide_eq_true (bnot_f hc364)) | (subst hc364) | (replace hc364 := bnot_f hc364; subst hc364) | (replace hc364 := bnot_f hc364) | skip
          refine seq_yl hF (wn_t hF rfl rfl rfl rfl) rfl rfl (yl_move hF rfl rfl) ?_
          clear hF; intro a hF
          refine seq_yl hF (wn_t hF rfl rfl rfl rfl) rfl rfl (yl_bin hF rfl rfl rfl rfl (fun _ => run_gtr)) ?_
          clear hF; intro a hF
          refine seq_yl hF (wn_none rfl) rfl rfl (yl_pick (u := _) (v := undef) hF rfl rfl (fun h => by cases h) (fun _ => rfl)) ?_
          clear hF; intro a hF
          refine seq_yl hF (wn_none rfl) rfl rfl (yl_assign hF rfl rfl) ?_
          clear hF; intro a hF
          refine wpList_nil ?_
          refine then_n ?_
          refine c_cond hF rfl (fun hc365 => ?_) (fun hc365 => ?_)
          · first | (replace hc365 := of_decide_eq_true hc365) | (replace hc365 := of_decide_eq_false (bnot_t hc365)) | (subst hc365) | (replace hc365 := bnot_t hc365; subst hc365) | (replace hc365 := bnot_t hc365) | skip
            refine c_seq ?_
            refine c_region ?_
            refine seq_yl hF (wn_none rfl) rfl rfl (yl_move hF rfl rfl) ?_
            clear hF; intro a hF
            refine seq_yl hF (wn_none rfl) rfl rfl (yl_assign hF rfl rfl) ?_
            clear hF; intro a hF
            refine seq_yl hF (wn_none rfl) rfl rfl (yl_assign hF rfl rfl) ?_
            clear hF; intro a hF
            refine wpList_nil ?_
            refine then_n ?_
            refine wp_ret ?_
            refine inb_r ?_
            refine then_r ?_
            refine ret_tt hF rfl rfl rfl ?_
            have hF0 := unF_w (wrong_2 (t := t) (n := n) (by assumption) (by omega)) (by decide)
            rw [hF0]
            exact ⟨_, rfl, _, rfl, .inr ⟨rfl, rfl, (hS.sub [] (by decide) (by first | rfl | simp) (by simp))⟩⟩
          · first | (replace hc365 := of_decide_eq_false hc365) | (replace hc365 := of_decide_eq_true (bnot_f hc365)) | (subst hc365) | (replace hc365 := bnot_f hc365; subst hc365) | (replace hc365 := bnot_f hc365) | skip
            refine c_seq ?_
            refine c_region ?_
            have hw0 : wrongF L t n = 0 := (wrong_0 (by assumption) (by omega)).symm
            obtain ⟨hmem, hl1, hl4, ht0, ht1, hn0, hn1⟩ := wrong_inv hw0
            refine seq_yl hF (wn_none rfl) rfl rfl (yl_move hF rfl rfl) ?_
            clear hF; intro a hF
            refine seq_yl hF (wn_none rfl) rfl rfl (yl_move hF rfl rfl) ?_
            clear hF; intro a hF
            refine seq_yl hF (wn_none rfl) rfl rfl (yl_move hF rfl rfl) ?_
            clear hF; intro a hF
            replace hF := fr_seti (b' := ((t.toNat : Nat) : Int)) hF (by omega)
            have hlt_hx366 : t.toNat < (L).length := by first | omega | (simp; done) | (simp; omega)
            obtain ⟨ad367, rfl⟩ := rd_some (hS.rdRo 0 rfl) hlt_hx366
            obtain ⟨x366, hx366⟩ := get_some hlt_hx366
            have hb_x366 := hmem x366 (List.mem_of_getElem? hx366)
            refine seq_yl hF (wn_none rfl) rfl rfl (yl_indexAddr hF rfl rfl rfl (fun _ => run_idx' sl26 sz36 (hS.rdRo 0 rfl) hlt_hx366)) ?_
            clear hF; intro a hF
            refine seq_yl hF (wn_none rfl) rfl rfl (yl_fieldAddr hF rfl rfl (fun w => run_fa fo36_2)) ?_
            clear hF; intro a hF
            refine seq_yl hF (wn_none rfl) rfl rfl (yl_loadAt hF rfl rfl ag3 (fun _ h => rd_cell (j := 2) (enc := enc36) (by subst h; exact hS.rdRo 0 rfl) enc36_len hx366 rfl rfl)) ?_
            clear hF; intro a hF
            refine seq_yl hF (wn_none rfl) rfl rfl (yl_bin hF rfl rfl rfl rfl (fun _ => run_gtr)) ?_
            clear hF; intro a hF
            refine seq_yl hF (wn_none rfl) rfl rfl (yl_assign hF rfl rfl) ?_
            clear hF; intro a hF
            refine wpList_nil ?_
            refine then_n ?_
            refine c_cond hF rfl (fun hc368 => ?_) (fun hc368 => ?_)
            · first | (replace hc368 := of_decide_eq_true hc368) | (replace hc368 := of_decide_eq_false (bnot_t hc368)) | (subst hc368) | (replace hc368 := bnot_t hc368; subst hc368) | (replace hc368 := bnot_t hc368) | skip
              refine c_seq ?_
              refine c_region ?_
              refine seq_yl hF (wn_none rfl) rfl rfl (yl_move hF rfl rfl) ?_
              clear hF; intro a hF
              refine seq_yl hF (wn_none rfl) rfl rfl (yl_assign hF rfl rfl) ?_
              clear hF; intro a hF
              refine seq_yl hF (wn_none rfl) rfl rfl (yl_assign hF rfl rfl) ?_
              clear hF; intro a hF
              refine wpList_nil ?_
              refine then_n ?_
              refine wp_ret ?_
              refine inb_r ?_
              refine then_r ?_
              refine ret_tt hF rfl rfl rfl ?_
              have hF0 := unF_4 hw0 hx366 (by omega)
              rw [hF0]
              exact ⟨_, rfl, _, rfl, .inr ⟨rfl, rfl, (hS.sub [] (by decide) (by first | rfl | simp) (by simp))⟩⟩
            · first | (replace hc368 := of_decide_eq_false hc368) | (replace hc368 := of_decide_eq_true (bnot_f hc368)) | (subst hc368) | (replace hc368 := bnot_f hc368; subst hc368) | (replace hc368 := bnot_f hc368) | skip
              refine wp_skip ?_
              refine inb_n ?_
              refine then_n ?_
              refine c_seq ?_
              refine c_region ?_
              refine seq_yl hF (wn_none rfl) rfl rfl (yl_move hF rfl rfl) ?_
              clear hF; intro a hF
              refine seq_yl hF (wn_none rfl) rfl rfl (yl_move hF rfl rfl) ?_
              clear hF; intro a hF
              refine seq_yl hF (wn_none rfl) rfl rfl (yl_move hF rfl rfl) ?_
              clear hF; intro a hF
              refine seq_yl hF (wn_none rfl) rfl rfl (yl_move hF rfl rfl) ?_
              clear hF; intro a hF
              replace hF := fr_seti (b' := ((t.toNat : Nat) : Int)) hF (by omega)
              refine seq_yl hF (wn_none rfl) rfl rfl (yl_indexAddr hF rfl rfl rfl (fun _ => run_idx' sl26 sz36 (hS.rdRo 0 rfl) hlt_hx366)) ?_
              clear hF; intro a hF
              refine seq_yl hF (wn_none rfl) rfl rfl (yl_fieldAddr hF rfl rfl (fun w => run_fa fo36_2)) ?_
              clear hF; intro a hF
              refine seq_yl hF (wn_none rfl) rfl rfl (yl_loadAt hF rfl rfl ag3 (fun _ h => rd_cell (j := 2) (enc := enc36) (by subst h; exact hS.rdRo 0 rfl) enc36_len hx366 rfl rfl)) ?_
              clear hF; intro a hF
              refine seq_yl hF (wn_none rfl) rfl rfl (yl_move hF rfl rfl) ?_
              clear hF; intro a hF
              refine seq_yl hF (wn_none rfl) rfl rfl (yl_bin hF rfl rfl rfl rfl (fun _ => run_sub (by simp only [okG] at *; refine ⟨?_, ?_⟩ <;> omega))) ?_
              clear hF; intro a hF
              refine seq_wp (wn_none rfl) (wp_call (vs := [_, _, _]) hF rfl rfl rfl rfl cf29 (charged_any _ L x366 t (((x366.f2) - (n))) (by omega) hx366 _ (hS.rdRo 0 rfl) (by first | omega | (simp; done) | (simp; omega) | (rw [chF_len]; first | omega | (simp; done) | (simp; omega)) | (rw [unF_len]; first | omega | (simp; done) | (simp; omega)))) ?_)
              clear hF; rintro _ w ⟨v369, rfl, hS1⟩ a hF
              replace hS := hS.callB hS1 rfl; clear hS1
              obtain ⟨Av369, cv369, rfl⟩ := hS.form 0 rfl
              refine seq_yl hF (wn_none rfl) rfl rfl (yl_assign hF rfl rfl) ?_
              clear hF; intro a hF
              refine seq_yl hF (wn_none rfl) rfl rfl (yl_assign hF rfl rfl) ?_
              clear hF; intro a hF
              refine wpList_nil ?_
              refine then_n ?_
              refine wp_ret ?_
              refine ret_tt hF rfl rfl rfl ?_
              have hF0 := unF_0 hw0 hx366 (by omega)
              rw [hF0]
              exact ⟨_, rfl, _, rfl, .inl (hS.sub [0] (by decide) (by first | rfl | simp) (by simp))⟩

theorem over2_any (v : Value) (L : List E36) (t n : Int) (w0 : World) (hv : Rd w0 3 v (L).length (cells enc36 (L))) (hL : L.length ≤ 1000000) :
    Fn Try.prog 23 #[v, .int .i64 t, .int .i64 n] w0 (fun v w' => v = .int .i64 (ovF L t n) ∧ Sat w0 w' []) := by
  obtain ⟨Av, cv, rfl⟩ := Rd.form hv
  refine c_enter (N := 42) (l := [_, _, _]) Try.func23 rfl rfl (fun a w hF hS => ?_)
  replace hS := hS.addRo hv
  refine c_seq ?_
  refine c_region ?_
  refine seq_yl hF (wn_none rfl) rfl rfl (yl_assign hF rfl rfl) ?_
  clear hF; intro a hF
  refine wpList_nil ?_
  refine then_n ?_
  refine c_seq ?_
  refine c_seq ?_
  refine c_region ?_
  refine seq_yl hF (wn_none rfl) rfl rfl (yl_move hF rfl rfl) ?_
  clear hF; intro a hF
  refine seq_wp (wn_none rfl) (wp_call (vs := [_]) hF rfl rfl rfl rfl cf20 (check2_any _ L _ (hS.rdRo 0 rfl) (by first | omega | (simp; done) | (simp; omega) | (rw [chF_len]; first | omega | (simp; done) | (simp; omega)) | (rw [unF_len]; first | omega | (simp; done) | (simp; omega)))) ?_)
  clear hF; rintro _ w ⟨rfl, hS1⟩ a hF
  replace hS := hS.callB hS1 rfl; clear hS1
  refine seq_yl hF (wn_none rfl) rfl rfl (yl_un hF rfl rfl (fun _ => run_not)) ?_
  clear hF; intro a hF
  refine seq_yl hF (wn_none rfl) rfl rfl (yl_move hF rfl rfl) ?_
  clear hF; intro a hF
  refine fr_split hF (fun hc370 hF => ?_) (fun hc370 hF => ?_)
  · first | (replace hc370 := of_decide_eq_true hc370) | (replace hc370 := of_decide_eq_false (bnot_t hc370)) | (subst hc370) | (replace hc370 := bnot_t hc370; subst hc370) | (replace hc370 := bnot_t hc370) | skip
    refine seq_skip hF (wn_f hF rfl rfl rfl rfl) rfl rfl ?_
    clear hF; intro a hF
    refine seq_skip hF (wn_f hF rfl rfl rfl rfl) rfl rfl ?_
    clear hF; intro a hF
    refine seq_yl hF (wn_none rfl) rfl rfl (yl_pick (u := _) (v := undef) hF rfl rfl (fun _ => rfl) (fun h => by cases h)) ?_
    clear hF; intro a hF
    refine seq_yl hF (wn_none rfl) rfl rfl (yl_move hF rfl rfl) ?_
    clear hF; intro a hF
    refine seq_skip hF (wn_f hF rfl rfl rfl rfl) rfl rfl ?_
    clear hF; intro a hF
    refine seq_skip hF (wn_f hF rfl rfl rfl rfl) rfl rfl ?_
    clear hF; intro a hF
    refine seq_skip hF (wn_f hF rfl rfl rfl rfl) rfl rfl ?_
    clear hF; intro a hF
    refine seq_skip hF (wn_f hF rfl rfl rfl rfl) rfl rfl ?_
    clear hF; intro a hF
    refine seq_yl hF (wn_none rfl) rfl rfl (yl_pick (u := _) (v := undef) hF rfl rfl (fun _ => rfl) (fun h => by cases h)) ?_
    clear hF; intro a hF
    refine seq_yl hF (wn_none rfl) rfl rfl (yl_move hF rfl rfl) ?_
    clear hF; intro a hF
    refine seq_skip hF (wn_f hF rfl rfl rfl rfl) rfl rfl ?_
    clear hF; intro a hF
    refine seq_skip hF (wn_f hF rfl rfl rfl rfl) rfl rfl ?_
    clear hF; intro a hF
    refine seq_yl hF (wn_none rfl) rfl rfl (yl_pick (u := _) (v := undef) hF rfl rfl (fun _ => rfl) (fun h => by cases h)) ?_
    clear hF; intro a hF
    refine seq_yl hF (wn_none rfl) rfl rfl (yl_move hF rfl rfl) ?_
    clear hF; intro a hF
    refine seq_skip hF (wn_f hF rfl rfl rfl rfl) rfl rfl ?_
    clear hF; intro a hF
    refine seq_skip hF (wn_f hF rfl rfl rfl rfl) rfl rfl ?_
    clear hF; intro a hF
    refine seq_yl hF (wn_none rfl) rfl rfl (yl_pick (u := _) (v := undef) hF rfl rfl (fun _ => rfl) (fun h => by cases h)) ?_
    clear hF; intro a hF
    refine wpList_nil ?_
    refine then_n ?_
    refine c_cond_t hF rfl ?_
    refine c_seq ?_
    refine c_region ?_
    refine seq_yl hF (wn_none rfl) rfl rfl (yl_assign hF rfl rfl) ?_
    clear hF; intro a hF
    refine wpList_nil ?_
    refine then_n ?_
    refine wp_ret ?_
    refine then_r ?_
    refine ret_t hF rfl rfl ?_
    exact ⟨_, rfl, congrArg (Value.int .i64) (by first | rw [ov_0 (wrong_1 (t := t) (n := n) (by assumption)) (by decide)] | rw [ov_0 (wrong_2 (t := t) (n := n) (by assumption) (by omega)) (by decide)]), (hS.sub [] (by decide) (by first | rfl | simp) (by simp))⟩
  · first | (replace hc370 := of_decide_eq_false hc370) | (replace hc370 := of_decide_eq_true (bnot_f hc370)) | (subst hc370) | (replace hc370 := bnot_f hc370; subst hc370) | (replace hc370 := bnot_f hc370) | skip
    refine seq_yl hF (wn_t hF rfl rfl rfl rfl) rfl rfl (yl_move hF rfl rfl) ?_
    clear hF; intro a hF
    refine seq_yl hF (wn_t hF rfl rfl rfl rfl) rfl rfl (yl_bin hF rfl rfl rfl rfl (fun _ => run_lss)) ?_
    clear hF; intro a hF
    refine seq_yl hF (wn_none rfl) rfl rfl (yl_pick (u := _) (v := undef) hF rfl rfl (fun h => by cases h) (fun _ => rfl)) ?_
    clear hF; intro a hF
    refine seq_yl hF (wn_none rfl) rfl rfl (yl_move hF rfl rfl) ?_
    clear hF; intro a hF
    refine fr_split hF (fun hc371 hF => ?_) (fun hc371 hF => ?_)
    · first | (replace hc371 := of_decide_eq_true hc371) | (replace hc371 := of_decide_eq_false (bnot_t hc371)) | (subst hc371) | (replace hc371 := bnot_t hc371; subst hc371) | (replace hc371 := bnot_t hc371) | skip
      refine seq_skip hF (wn_f hF rfl rfl rfl rfl) rfl rfl ?_
      clear hF; intro a hF
      refine seq_skip hF (wn_f hF rfl rfl rfl rfl) rfl rfl ?_
      clear hF; intro a hF
      refine seq_skip hF (wn_f hF rfl rfl rfl rfl) rfl rfl ?_
      clear hF; intro a hF
      refine seq_skip hF (wn_f hF rfl rfl rfl rfl) rfl rfl ?_
      clear hF; intro a hF
      refine seq_yl hF (wn_none rfl) rfl rfl (yl_pick (u := _) (v := undef) hF rfl rfl (fun _ => rfl) (fun h => by cases h)) ?_
      clear hF; intro a hF
      refine seq_yl hF (wn_none rfl) rfl rfl (yl_move hF rfl rfl) ?_
      clear hF; intro a hF
      refine seq_skip hF (wn_f hF rfl rfl rfl rfl) rfl rfl ?_
      clear hF; intro a hF
      refine seq_skip hF (wn_f hF rfl rfl rfl rfl) rfl rfl ?_
      clear hF; intro a hF
      refine seq_yl hF (wn_none rfl) rfl rfl (yl_pick (u := _) (v := undef) hF rfl rfl (fun _ => rfl) (fun h => by cases h)) ?_
      clear hF; intro a hF
      refine seq_yl hF (wn_none rfl) rfl rfl (yl_move hF rfl rfl) ?_
      clear hF; intro a hF
      refine seq_skip hF (wn_f hF rfl rfl rfl rfl) rfl rfl ?_
      clear hF; intro a hF
      refine seq_skip hF (wn_f hF rfl rfl rfl rfl) rfl rfl ?_
      clear hF; intro a hF
      refine seq_yl hF (wn_none rfl) rfl rfl (yl_pick (u := _) (v := undef) hF rfl rfl (fun _ => rfl) (fun h => by cases h)) ?_
      clear hF; intro a hF
      refine wpList_nil ?_
      refine then_n ?_
      refine c_cond_t hF rfl ?_
      refine c_seq ?_
      refine c_region ?_
      refine seq_yl hF (wn_none rfl) rfl rfl (yl_assign hF rfl rfl) ?_
      clear hF; intro a hF
      refine wpList_nil ?_
      refine then_n ?_
      refine wp_ret ?_
      refine then_r ?_
      refine ret_t hF rfl rfl ?_
      exact ⟨_, rfl, congrArg (Value.int .i64) (by first | rw [ov_0 (wrong_1 (t := t) (n := n) (by assumption)) (by decide)] | rw [ov_0 (wrong_2 (t := t) (n := n) (by assumption) (by omega)) (by decide)]), (hS.sub [] (by decide) (by first | rfl | simp) (by simp))⟩
    · first | (replace hc371 := of_decide_eq_false hc371) | (replace hc371 := of_decide_eq_true (bnot_f hc371)) | (subst hc371) | (replace hc371 := bnot_f hc371; subst hc371) | (replace hc371 := bnot_f hc371) | skip
      refine seq_yl hF (wn_t hF rfl rfl rfl rfl) rfl rfl (yl_move hF rfl rfl) ?_
      clear hF; intro a hF
      refine seq_yl hF (wn_t hF rfl rfl rfl rfl) rfl rfl (yl_move hF rfl rfl) ?_
      clear hF; intro a hF
      refine seq_yl hF (wn_t hF rfl rfl rfl rfl) rfl rfl (yl_len hF rfl rfl (fun _ => run_lenRd sl26 (hS.rdRo 0 rfl))) ?_
      clear hF; intro a hF
      refine seq_yl hF (wn_t hF rfl rfl rfl rfl) rfl rfl (yl_bin hF rfl rfl rfl rfl (fun _ => run_geq)) ?_
      clear hF; intro a hF
      refine seq_yl hF (wn_none rfl) rfl rfl (yl_pick (u := _) (v := undef) hF rfl rfl (fun h => by cases h) (fun _ => rfl)) ?_
      clear hF; intro a hF
      refine seq_yl hF (wn_none rfl) rfl rfl (yl_move hF rfl rfl) ?_
      clear hF; intro a hF
      refine fr_split hF (fun hc372 hF => ?_) (fun hc372 hF => ?_)
      · first | (replace hc372 := of_decide_eq_true hc372) | (replace hc372 := of_decide_eq_false (bnot_t hc372)) | (subst hc372) | (replace hc372 := bnot_t hc372; subst hc372) | (replace hc372 := bnot_t hc372) | skip
        refine seq_skip hF (wn_f hF rfl rfl rfl rfl) rfl rfl ?_
        clear hF; intro a hF
        refine seq_skip hF (wn_f hF rfl rfl rfl rfl) rfl rfl ?_
        clear hF; intro a hF
        refine seq_yl hF (wn_none rfl) rfl rfl (yl_pick (u := _) (v := undef) hF rfl rfl (fun _ => rfl) (fun h => by cases h)) ?_
        clear hF; intro a hF
        refine seq_yl hF (wn_none rfl) rfl rfl (yl_move hF rfl rfl) ?_
        clear hF; intro a hF
        refine seq_skip hF (wn_f hF rfl rfl rfl rfl) rfl rfl ?_
        clear hF; intro a hF
        refine seq_skip hF (wn_f hF rfl rfl rfl rfl) rfl rfl ?_
        clear hF; intro a hF
        refine seq_yl hF (wn_none rfl) rfl rfl (yl_pick (u := _) (v := undef) hF rfl rfl (fun _ => rfl) (fun h => by cases h)) ?_
        clear hF; intro a hF
        refine wpList_nil ?_
        refine then_n ?_
        refine c_cond_t hF rfl ?_
        refine c_seq ?_
        refine c_region ?_
        refine seq_yl hF (wn_none rfl) rfl rfl (yl_assign hF rfl rfl) ?_
        clear hF; intro a hF
        refine wpList_nil ?_
        refine then_n ?_
        refine wp_ret ?_
        refine then_r ?_
        refine ret_t hF rfl rfl ?_
        exact ⟨_, rfl, congrArg (Value.int .i64) (by first | rw [ov_0 (wrong_1 (t := t) (n := n) (by assumption)) (by decide)] | rw [ov_0 (wrong_2 (t := t) (n := n) (by assumption) (by omega)) (by decide)]), (hS.sub [] (by decide) (by first | rfl | simp) (by simp))⟩
      · first | (replace hc372 := of_decide_eq_false hc372) | (replace hc372 := of_decide_eq_true (bnot_f hc372)) | (subst hc372) | (replace hc372 := bnot_f hc372; subst hc372) | (replace hc372 := bnot_f hc372) | skip
        refine seq_yl hF (wn_t hF rfl rfl rfl rfl) rfl rfl (yl_move hF rfl rfl) ?_
        clear hF; intro a hF
        refine seq_yl hF (wn_t hF rfl rfl rfl rfl) rfl rfl (yl_bin hF rfl rfl rfl rfl (fun _ => run_lss)) ?_
        clear hF; intro a hF
        refine seq_yl hF (wn_none rfl) rfl rfl (yl_pick (u := _) (v := undef) hF rfl rfl (fun h => by cases h) (fun _ => rfl)) ?_
        clear hF; intro a hF
        refine seq_yl hF (wn_none rfl) rfl rfl (yl_move hF rfl rfl) ?_
        clear hF; intro a hF
        refine fr_split hF (fun hc373 hF => ?_) (fun hc373 hF => ?_)
        · first | (replace hc373 := of_decide_eq_true hc373) | (replace hc373 := of_decide_eq_false (bnot_t hc373)) | (subst hc373) | (replace hc373 := bnot_t hc373; subst hc373) | (replace hc373 := bnot_t hc373) | skip
          refine seq_skip hF (wn_f hF rfl rfl rfl rfl) rfl rfl ?_
          clear hF; intro a hF
          refine seq_skip hF (wn_f hF rfl rfl rfl rfl) rfl rfl ?_
          clear hF; intro a hF
          refine seq_yl hF (wn_none rfl) rfl rfl (yl_pick (u := _) (v := undef) hF rfl rfl (fun _ => rfl) (fun h => by cases h)) ?_
          clear hF; intro a hF
          refine wpList_nil ?_
          refine then_n ?_
          refine c_cond_t hF rfl ?_
          refine c_seq ?_
          refine c_region ?_
          refine seq_yl hF (wn_none rfl) rfl rfl (yl_assign hF rfl rfl) ?_
          clear hF; intro a hF
          refine wpList_nil ?_
          refine then_n ?_
          refine wp_ret ?_
          refine then_r ?_
          refine ret_t hF rfl rfl ?_
          exact ⟨_, rfl, congrArg (Value.int .i64) (by first | rw [ov_0 (wrong_1 (t := t) (n := n) (by assumption)) (by decide)] | rw [ov_0 (wrong_2 (t := t) (n := n) (by assumption) (by omega)) (by decide)]), (hS.sub [] (by decide) (by first | rfl | simp) (by simp))⟩
        · first | (replace hc373 := of_decide_eq_false hc373) | (replace hc373 := of_decide_eq_true (bnot_f hc373)) | (subst hc373) | (replace hc373 := bnot_f hc373; subst hc373) | (replace hc373 := bnot_f hc373) | skip
          refine seq_yl hF (wn_t hF rfl rfl rfl rfl) rfl rfl (yl_move hF rfl rfl) ?_
          clear hF; intro a hF
          refine seq_yl hF (wn_t hF rfl rfl rfl rfl) rfl rfl (yl_bin hF rfl rfl rfl rfl (fun _ => run_gtr)) ?_
          clear hF; intro a hF
          refine seq_yl hF (wn_none rfl) rfl rfl (yl_pick (u := _) (v := undef) hF rfl rfl (fun h => by cases h) (fun _ => rfl)) ?_
          clear hF; intro a hF
          refine wpList_nil ?_
          refine then_n ?_
          refine c_cond hF rfl (fun hc374 => ?_) (fun hc374 => ?_)
          · first | (replace hc374 := of_decide_eq_true hc374) | (replace hc374 := of_decide_eq_false (bnot_t hc374)) | (subst hc374) | (replace hc374 := bnot_t hc374; subst hc374) | (replace hc374 := bnot_t hc374) | skip
            refine c_seq ?_
            refine c_region ?_
            refine seq_yl hF (wn_none rfl) rfl rfl (yl_assign hF rfl rfl) ?_
            clear hF; intro a hF
            refine wpList_nil ?_
            refine then_n ?_
            refine wp_ret ?_
            refine then_r ?_
            refine ret_t hF rfl rfl ?_
            exact ⟨_, rfl, congrArg (Value.int .i64) (by first | rw [ov_0 (wrong_1 (t := t) (n := n) (by assumption)) (by decide)] | rw [ov_0 (wrong_2 (t := t) (n := n) (by assumption) (by omega)) (by decide)]), (hS.sub [] (by decide) (by first | rfl | simp) (by simp))⟩
          · first | (replace hc374 := of_decide_eq_false hc374) | (replace hc374 := of_decide_eq_true (bnot_f hc374)) | (subst hc374) | (replace hc374 := bnot_f hc374; subst hc374) | (replace hc374 := bnot_f hc374) | skip
            refine wp_skip ?_
            refine then_n ?_
            refine c_seq ?_
            refine ha_startS hS [0] 15 (by kernel_rfl) ?_; clear hS; intro w hS
            have hSS := hS.sub [0] (by decide) rfl (by simp)
            have hw0 : wrongF L t n = 0 := (wrong_0 (by assumption) (by omega)).symm
            obtain ⟨hmem, hl1, hl4, ht0, ht1, hn0, hn1⟩ := wrong_inv hw0
            refine ha_yl 0 hF rfl rfl rfl (by kernel_rfl) (by kernel_rfl) (by kernel_rfl) (by decide) (fun _ _ _ h => h) (wn_none rfl) (.inr hSS) (yl_move hF rfl rfl) ?_
            clear hF; intro a hF
            refine ha_yl 1 hF rfl rfl rfl (by kernel_rfl) (by kernel_rfl) (by kernel_rfl) (by decide) (fun _ _ _ h => h) (wn_none rfl) (.inr hSS) (yl_move hF rfl rfl) ?_
            clear hF; intro a hF
            refine ha_yl 2 hF rfl rfl rfl (by kernel_rfl) (by kernel_rfl) (by kernel_rfl) (by decide) (fun _ _ _ h => h) (wn_none rfl) (.inr hSS) (yl_move hF rfl rfl) ?_
            clear hF; intro a hF
            replace hF := fr_seti (b' := ((t.toNat : Nat) : Int)) hF (by omega)
            have hlt_hx375 : t.toNat < (L).length := by first | omega | (simp; done) | (simp; omega)
            obtain ⟨ad376, rfl⟩ := rd_some (hS.rdRo 0 rfl) hlt_hx375
            obtain ⟨x375, hx375⟩ := get_some hlt_hx375
            have hb_x375 := hmem x375 (List.mem_of_getElem? hx375)
            refine ha_yl 3 hF rfl rfl rfl (by kernel_rfl) (by kernel_rfl) (by kernel_rfl) (by decide) (fun _ _ _ h => h) (wn_none rfl) (.inr hSS) (yl_indexAddr hF rfl rfl rfl (fun _ => run_idx' sl26 sz36 (hS.rdRo 0 rfl) hlt_hx375)) ?_
            clear hF; intro a hF
            refine ha_yl 4 hF rfl rfl rfl (by kernel_rfl) (by kernel_rfl) (by kernel_rfl) (by decide) (fun _ _ _ h => h) (wn_none rfl) (.inr hSS) (yl_fieldAddr hF rfl rfl (fun w => run_fa0 fo36_0)) ?_
            clear hF; intro a hF
            refine ha_yl 6 hF rfl rfl rfl (by kernel_rfl) (by kernel_rfl) (by kernel_rfl) (by decide) (fun _ _ _ h => h) (wn_none rfl) (.inr hSS) (yl_move hF rfl rfl) ?_
            clear hF; intro a hF
            refine ha_yl 7 hF rfl rfl rfl (by kernel_rfl) (by kernel_rfl) (by kernel_rfl) (by decide) (fun _ _ _ h => h) (wn_none rfl) (.inr hSS) (yl_move hF rfl rfl) ?_
            clear hF; intro a hF
            replace hF := fr_seti (b' := ((t.toNat : Nat) : Int)) hF (by omega)
            refine ha_yl 8 hF rfl rfl rfl (by kernel_rfl) (by kernel_rfl) (by kernel_rfl) (by decide) (fun _ _ _ h => h) (wn_none rfl) (.inr hSS) (yl_indexAddr hF rfl rfl rfl (fun _ => run_idx' sl26 sz36 (hS.rdRo 0 rfl) hlt_hx375)) ?_
            clear hF; intro a hF
            refine ha_yl 9 hF rfl rfl rfl (by kernel_rfl) (by kernel_rfl) (by kernel_rfl) (by decide) (fun _ _ _ h => h) (wn_none rfl) (.inr hSS) (yl_fieldAddr hF rfl rfl (fun w => run_fa fo36_2)) ?_
            clear hF; intro a hF
            refine ha_ld 5 hF rfl rfl rfl (by kernel_rfl) (by kernel_rfl) (by kernel_rfl) (by decide) (by kernel_rfl) (by kernel_rfl) (fun _ _ _ h => h) (wn_none rfl) hSS (yl_loadAt hF rfl rfl ag3 (fun _ h => rd_cell0 (enc := enc36) (Sat.rdRo h 0 rfl) enc36_len hx375 rfl rfl)) ?_
            clear hF; intro a hF
            refine ha_ld 10 hF rfl rfl rfl (by kernel_rfl) (by kernel_rfl) (by kernel_rfl) (by decide) (by kernel_rfl) (by kernel_rfl) (fun _ _ _ h => h) (wn_none rfl) hSS (yl_loadAt hF rfl rfl ag3 (fun _ h => rd_cell (j := 2) (enc := enc36) (Sat.rdRo h 0 rfl) enc36_len hx375 rfl rfl)) ?_
            clear hF; intro a hF
            refine ha_yl 11 hF rfl rfl rfl (by kernel_rfl) (by kernel_rfl) (by kernel_rfl) (by decide) (fun _ _ _ h => h) (wn_none rfl) (.inr hSS) (yl_bin hF rfl rfl rfl rfl (fun _ => run_sub (by simp only [okG] at *; refine ⟨?_, ?_⟩ <;> omega))) ?_
            clear hF; intro a hF
            refine ha_yl 12 hF rfl rfl rfl (by kernel_rfl) (by kernel_rfl) (by kernel_rfl) (by decide) (fun _ _ _ h => h) (wn_none rfl) (.inr hSS) (yl_bin hF rfl rfl rfl rfl (fun _ => run_sub (by simp only [okG] at *; refine ⟨?_, ?_⟩ <;> omega))) ?_
            clear hF; intro a hF
            refine ha_yl 13 hF rfl rfl rfl (by kernel_rfl) (by kernel_rfl) (by kernel_rfl) (by decide) (fun _ _ _ h => h) (wn_none rfl) (.inr hSS) (yl_max2 hF rfl rfl rfl) ?_
            clear hF; intro a hF
            refine ha_yl 14 hF rfl rfl rfl (by kernel_rfl) (by kernel_rfl) (by kernel_rfl) (by decide) (fun _ _ _ h => h) (wn_none rfl) (.inr hSS) (yl_assign hF rfl rfl) ?_
            clear hF; intro a hF
            refine ha_done (by kernel_rfl) ?_ _
            refine then_n ?_
            refine wp_ret ?_
            refine ret_t hF rfl rfl ?_
            exact ⟨_, rfl, congrArg (Value.int .i64) (by rw [ov_1 hw0 hx375]), (hS.sub [] (by decide) (by first | rfl | simp) (by simp))⟩

theorem charge2_ro (w0 w : World) (Ht : List Chunk) (v0 : Value) (L : List E36) (t n : Int) (hS : Sat w0 w (.ro 3 v0 L.length (cells enc36 L) :: Ht)) (hL : L.length ≤ 1000000) :
    Fn Try.prog 12 #[v0, .int .i64 t, .int .i64 n] w (fun v w' => ∃ v1, v = .tuple #[v1, .int .i64 (chF L t n).2] ∧ Sat w0 w' (.ro 3 v1 (chF L t n).1.length (cells enc36 (chF L t n).1) :: .ro 3 v0 L.length (cells enc36 L) :: Ht)) := by
  refine Calls.mono (charge2_any v0 L t n w (hS.rdRo 0 rfl) hL) fun e w' he => ?_
  obtain ⟨v, rfl, v1, rfl, h | ⟨rfl, h2, h⟩⟩ := he
  · exact ⟨_, rfl, _, rfl, (hS.callB h rfl).toRo 0 rfl⟩
  · refine ⟨_, rfl, _, rfl, ?_⟩
    rw [h2]
    exact (hS.callB h rfl).dupRo 0 rfl

theorem uncharge2_ro (w0 w : World) (Ht : List Chunk) (v0 : Value) (L : List E36) (t n : Int) (hS : Sat w0 w (.ro 3 v0 L.length (cells enc36 L) :: Ht)) (hL : L.length ≤ 1000000) :
    Fn Try.prog 14 #[v0, .int .i64 t, .int .i64 n] w (fun v w' => ∃ v1, v = .tuple #[v1, .int .i64 (unF L t n).2] ∧ Sat w0 w' (.ro 3 v1 (unF L t n).1.length (cells enc36 (unF L t n).1) :: .ro 3 v0 L.length (cells enc36 L) :: Ht)) := by
  refine Calls.mono (uncharge2_any v0 L t n w (hS.rdRo 0 rfl) hL) fun e w' he => ?_
  obtain ⟨v, rfl, v1, rfl, h | ⟨rfl, h2, h⟩⟩ := he
  · exact ⟨_, rfl, _, rfl, (hS.callB h rfl).toRo 0 rfl⟩
  · refine ⟨_, rfl, _, rfl, ?_⟩
    rw [h2]
    exact (hS.callB h rfl).dupRo 0 rfl

end Go.Proofs.Ytiifpgkdgnoafaa

/- walks, printed by wip/gen -/
import Derived.Test.YtlhcpeolkkadbaaWk
import Derived.Test.YtlhcpeolkkadbaaW7
namespace Go.Proofs.Ytlhcpeolkkadbaa
open Go.RowKit
set_option linter.unusedVariables false
set_option linter.unusedSimpArgs false

set_option maxRecDepth 100000 in
theorem few_any (st : ByteArray) (lv : Value) (L : List E59) (rm : Int) (fv : Value) (F : List E59) (pv : Value) (P : List Int) (tv : Value) (T : List Bool) (w0 : World) (hv : Rd w0 2 lv (L).length (cells enc59 (L))) (hf : Rd w0 2 fv (F).length (cells enc59 (F))) (hp : Rd w0 1 pv (P).length (cells encI (P))) (ht : Rd w0 1 tv (T).length (cells encB (T))) :
    Fn Try.prog 11 #[.agg #[.string st, lv, .int .i64 rm], fv, .agg #[pv, tv]] w0 (fun v w' => v = .bool (decide ((st.size : Int) ≤ 300 ∧ (L.length : Int) ≤ 70 ∧ (F.length : Int) ≤ 20 ∧ (P.length : Int) ≤ 40 ∧ (T.length : Int) ≤ 40)) ∧ Sat w0 w' []) := by
  obtain ⟨Alv, clv, rfl⟩ := Rd.form hv
  obtain ⟨Afv, cfv, rfl⟩ := Rd.form hf
  obtain ⟨Apv, cpv, rfl⟩ := Rd.form hp
  obtain ⟨Atv, ctv, rfl⟩ := Rd.form ht
  refine c_enter (N := 34) (l := [_, _, _]) Try.func11 rfl rfl (fun a w hF hS => ?_)
  replace hS := hS.addRo ht
  replace hS := hS.addRo hp
  replace hS := hS.addRo hf
  replace hS := hS.addRo hv
  refine c_seq ?_
  refine c_region ?_
  refine seq_wp (wn_none rfl) (wp_box (cs := #[_, _, _]) hF hS rfl rfl rfl rfl rfl ?_)
  clear hF hS; intro a w g413 hF hS
  refine seq_wp (wn_none rfl) (wp_box (cs := #[_, _]) hF hS rfl rfl rfl rfl rfl ?_)
  clear hF hS; intro a w g414 hF hS
  refine seq_yl hF (wn_none rfl) rfl rfl (yl_assign hF rfl rfl) ?_
  clear hF; intro a hF
  refine wpList_nil ?_
  refine then_n ?_
  refine c_seq ?_
  refine c_region ?_
  refine seq_yl hF (wn_none rfl) rfl rfl (yl_fieldAddr hF rfl rfl (fun w => by kernel_rfl : ∀ w, (Instr.fieldAt 24 (.pointer (some ⟨g413, 0, none⟩)) 0).run Try.prog w = .ok (.pointer (some ⟨g413, 0, none⟩)) w)) ?_
  clear hF; intro a hF
  refine seq_yl hF (wn_none rfl) rfl rfl (yl_load (fun _ h => h ▸ hS) hF rfl rfl 1 rfl ag9 rfl) ?_
  clear hF; intro a hF
  refine seq_yl hF (wn_none rfl) rfl rfl (yl_len hF rfl rfl (fun _ => run_lenStr Try.underlying9)) ?_
  clear hF; intro a hF
  refine seq_yl hF (wn_none rfl) rfl rfl (yl_bin hF rfl rfl rfl rfl (fun _ => run_leq)) ?_
  clear hF; intro a hF
  refine seq_yl hF (wn_none rfl) rfl rfl (yl_move hF rfl rfl) ?_
  clear hF; intro a hF
  refine fr_split hF (fun hc415 hF => ?_) (fun hc415 hF => ?_)
  · first | (replace hc415 := of_decide_eq_true hc415) | (replace hc415 := of_decide_eq_false (bnot_t hc415)) | (subst hc415) | (replace hc415 := bnot_t hc415; subst hc415) | (replace hc415 := bnot_t hc415) | skip
    try (have hc415x := hc415; simp only [okS, okI, okW, okP] at hc415x)
    refine seq_yl hF (wn_t hF rfl rfl rfl rfl) rfl rfl (yl_fieldAddr hF rfl rfl (fun w => by kernel_rfl : ∀ w, (Instr.fieldAt 24 (.pointer (some ⟨g413, 0, none⟩)) 1).run Try.prog w = .ok (.pointer (some ⟨g413, 1, none⟩)) w)) ?_
    clear hF; intro a hF
    refine seq_yl hF (wn_t hF rfl rfl rfl rfl) rfl rfl (yl_load (fun _ h => h ▸ hS) hF rfl rfl 1 rfl ag22 rfl) ?_
    clear hF; intro a hF
    refine seq_yl hF (wn_t hF rfl rfl rfl rfl) rfl rfl (yl_len hF rfl rfl (fun _ => run_lenRd sl22 (hS.rdRo 2 rfl))) ?_
    clear hF; intro a hF
    refine seq_yl hF (wn_t hF rfl rfl rfl rfl) rfl rfl (yl_bin hF rfl rfl rfl rfl (fun _ => run_leq)) ?_
    clear hF; intro a hF
    refine seq_yl hF (wn_none rfl) rfl rfl (yl_pick (u := _) (v := undef) hF rfl rfl (fun _ => rfl) (fun h => by cases h)) ?_
    clear hF; intro a hF
    refine seq_yl hF (wn_none rfl) rfl rfl (yl_move hF rfl rfl) ?_
    clear hF; intro a hF
    refine fr_split hF (fun hc416 hF => ?_) (fun hc416 hF => ?_)
    · first | (replace hc416 := of_decide_eq_true hc416) | (replace hc416 := of_decide_eq_false (bnot_t hc416)) | (subst hc416) | (replace hc416 := bnot_t hc416; subst hc416) | (replace hc416 := bnot_t hc416) | skip
      try (have hc416x := hc416; simp only [okS, okI, okW, okP] at hc416x)
      refine seq_yl hF (wn_t hF rfl rfl rfl rfl) rfl rfl (yl_move hF rfl rfl) ?_
      clear hF; intro a hF
      refine seq_yl hF (wn_t hF rfl rfl rfl rfl) rfl rfl (yl_len hF rfl rfl (fun _ => run_lenRd sl22 (hS.rdRo 3 rfl))) ?_
      clear hF; intro a hF
      refine seq_yl hF (wn_t hF rfl rfl rfl rfl) rfl rfl (yl_bin hF rfl rfl rfl rfl (fun _ => run_leq)) ?_
      clear hF; intro a hF
      refine seq_yl hF (wn_none rfl) rfl rfl (yl_pick (u := _) (v := undef) hF rfl rfl (fun _ => rfl) (fun h => by cases h)) ?_
      clear hF; intro a hF
      refine seq_yl hF (wn_none rfl) rfl rfl (yl_move hF rfl rfl) ?_
      clear hF; intro a hF
      refine fr_split hF (fun hc417 hF => ?_) (fun hc417 hF => ?_)
      · first | (replace hc417 := of_decide_eq_true hc417) | (replace hc417 := of_decide_eq_false (bnot_t hc417)) | (subst hc417) | (replace hc417 := bnot_t hc417; subst hc417) | (replace hc417 := bnot_t hc417) | skip
        try (have hc417x := hc417; simp only [okS, okI, okW, okP] at hc417x)
        refine seq_yl hF (wn_t hF rfl rfl rfl rfl) rfl rfl (yl_fieldAddr hF rfl rfl (fun w => by kernel_rfl : ∀ w, (Instr.fieldAt 28 (.pointer (some ⟨g414, 0, none⟩)) 0).run Try.prog w = .ok (.pointer (some ⟨g414, 0, none⟩)) w)) ?_
        clear hF; intro a hF
        refine seq_yl hF (wn_t hF rfl rfl rfl rfl) rfl rfl (yl_load (fun _ h => h ▸ hS) hF rfl rfl 0 rfl ag25 rfl) ?_
        clear hF; intro a hF
        refine seq_yl hF (wn_t hF rfl rfl rfl rfl) rfl rfl (yl_len hF rfl rfl (fun _ => run_lenRd sl25 (hS.rdRo 4 rfl))) ?_
        clear hF; intro a hF
        refine seq_yl hF (wn_t hF rfl rfl rfl rfl) rfl rfl (yl_bin hF rfl rfl rfl rfl (fun _ => run_leq)) ?_
        clear hF; intro a hF
        refine seq_yl hF (wn_none rfl) rfl rfl (yl_pick (u := _) (v := undef) hF rfl rfl (fun _ => rfl) (fun h => by cases h)) ?_
        clear hF; intro a hF
        refine seq_yl hF (wn_none rfl) rfl rfl (yl_move hF rfl rfl) ?_
        clear hF; intro a hF
        refine fr_split hF (fun hc418 hF => ?_) (fun hc418 hF => ?_)
        · first | (replace hc418 := of_decide_eq_true hc418) | (replace hc418 := of_decide_eq_false (bnot_t hc418)) | (subst hc418) | (replace hc418 := bnot_t hc418; subst hc418) | (replace hc418 := bnot_t hc418) | skip
          try (have hc418x := hc418; simp only [okS, okI, okW, okP] at hc418x)
          refine seq_yl hF (wn_t hF rfl rfl rfl rfl) rfl rfl (yl_fieldAddr hF rfl rfl (fun w => by kernel_rfl : ∀ w, (Instr.fieldAt 28 (.pointer (some ⟨g414, 0, none⟩)) 1).run Try.prog w = .ok (.pointer (some ⟨g414, 1, none⟩)) w)) ?_
          clear hF; intro a hF
          refine seq_yl hF (wn_t hF rfl rfl rfl rfl) rfl rfl (yl_load (fun _ h => h ▸ hS) hF rfl rfl 0 rfl ag26 rfl) ?_
          clear hF; intro a hF
          refine seq_yl hF (wn_t hF rfl rfl rfl rfl) rfl rfl (yl_len hF rfl rfl (fun _ => run_lenRd sl26 (hS.rdRo 5 rfl))) ?_
          clear hF; intro a hF
          refine seq_yl hF (wn_t hF rfl rfl rfl rfl) rfl rfl (yl_bin hF rfl rfl rfl rfl (fun _ => run_leq)) ?_
          clear hF; intro a hF
          refine seq_yl hF (wn_none rfl) rfl rfl (yl_pick (u := _) (v := undef) hF rfl rfl (fun _ => rfl) (fun h => by cases h)) ?_
          clear hF; intro a hF
          refine seq_yl hF (wn_none rfl) rfl rfl (yl_assign hF rfl rfl) ?_
          clear hF; intro a hF
          refine wpList_nil ?_
          refine then_n ?_
          refine wp_ret ?_
          refine ret_t hF rfl rfl ?_
          exact ⟨_, rfl, congrArg Value.bool (dec_d (by constructor <;> intro _ <;> omega)), (hS.sub [] (by decide) (by first | rfl | simp) (by simp))⟩
        · first | (replace hc418 := of_decide_eq_false hc418) | (replace hc418 := of_decide_eq_true (bnot_f hc418)) | (subst hc418) | (replace hc418 := bnot_f hc418; subst hc418) | (replace hc418 := bnot_f hc418) | skip
          try (have hc418x := hc418; simp only [okS, okI, okW, okP] at hc418x)
          refine seq_skip hF (wn_f hF rfl rfl rfl rfl) rfl rfl ?_
          clear hF; intro a hF
          refine seq_skip hF (wn_f hF rfl rfl rfl rfl) rfl rfl ?_
          clear hF; intro a hF
          refine seq_skip hF (wn_f hF rfl rfl rfl rfl) rfl rfl ?_
          clear hF; intro a hF
          refine seq_skip hF (wn_f hF rfl rfl rfl rfl) rfl rfl ?_
          clear hF; intro a hF
          refine seq_yl hF (wn_none rfl) rfl rfl (yl_pick (u := _) (v := undef) hF rfl rfl (fun h => by cases h) (fun _ => rfl)) ?_
          clear hF; intro a hF
          refine seq_yl hF (wn_none rfl) rfl rfl (yl_assign hF rfl rfl) ?_
          clear hF; intro a hF
          refine wpList_nil ?_
          refine then_n ?_
          refine wp_ret ?_
          refine ret_t hF rfl rfl ?_
          exact ⟨_, rfl, congrArg Value.bool (dec_f (by omega)), (hS.sub [] (by decide) (by first | rfl | simp) (by simp))⟩
      · first | (replace hc417 := of_decide_eq_false hc417) | (replace hc417 := of_decide_eq_true (bnot_f hc417)) | (subst hc417) | (replace hc417 := bnot_f hc417; subst hc417) | (replace hc417 := bnot_f hc417) | skip
        try (have hc417x := hc417; simp only [okS, okI, okW, okP] at hc417x)
        refine seq_skip hF (wn_f hF rfl rfl rfl rfl) rfl rfl ?_
        clear hF; intro a hF
        refine seq_skip hF (wn_f hF rfl rfl rfl rfl) rfl rfl ?_
        clear hF; intro a hF
        refine seq_skip hF (wn_f hF rfl rfl rfl rfl) rfl rfl ?_
        clear hF; intro a hF
        refine seq_skip hF (wn_f hF rfl rfl rfl rfl) rfl rfl ?_
        clear hF; intro a hF
        refine seq_yl hF (wn_none rfl) rfl rfl (yl_pick (u := _) (v := undef) hF rfl rfl (fun h => by cases h) (fun _ => rfl)) ?_
        clear hF; intro a hF
        refine seq_yl hF (wn_none rfl) rfl rfl (yl_move hF rfl rfl) ?_
        clear hF; intro a hF
        refine seq_skip hF (wn_f hF rfl rfl rfl rfl) rfl rfl ?_
        clear hF; intro a hF
        refine seq_skip hF (wn_f hF rfl rfl rfl rfl) rfl rfl ?_
        clear hF; intro a hF
        refine seq_skip hF (wn_f hF rfl rfl rfl rfl) rfl rfl ?_
        clear hF; intro a hF
        refine seq_skip hF (wn_f hF rfl rfl rfl rfl) rfl rfl ?_
        clear hF; intro a hF
        refine seq_yl hF (wn_none rfl) rfl rfl (yl_pick (u := _) (v := undef) hF rfl rfl (fun h => by cases h) (fun _ => rfl)) ?_
        clear hF; intro a hF
        refine seq_yl hF (wn_none rfl) rfl rfl (yl_assign hF rfl rfl) ?_
        clear hF; intro a hF
        refine wpList_nil ?_
        refine then_n ?_
        refine wp_ret ?_
        refine ret_t hF rfl rfl ?_
        exact ⟨_, rfl, congrArg Value.bool (dec_f (by omega)), (hS.sub [] (by decide) (by first | rfl | simp) (by simp))⟩
    · first | (replace hc416 := of_decide_eq_false hc416) | (replace hc416 := of_decide_eq_true (bnot_f hc416)) | (subst hc416) | (replace hc416 := bnot_f hc416; subst hc416) | (replace hc416 := bnot_f hc416) | skip
      try (have hc416x := hc416; simp only [okS, okI, okW, okP] at hc416x)
      refine seq_skip hF (wn_f hF rfl rfl rfl rfl) rfl rfl ?_
      clear hF; intro a hF
      refine seq_skip hF (wn_f hF rfl rfl rfl rfl) rfl rfl ?_
      clear hF; intro a hF
      refine seq_skip hF (wn_f hF rfl rfl rfl rfl) rfl rfl ?_
      clear hF; intro a hF
      refine seq_yl hF (wn_none rfl) rfl rfl (yl_pick (u := _) (v := undef) hF rfl rfl (fun h => by cases h) (fun _ => rfl)) ?_
      clear hF; intro a hF
      refine seq_yl hF (wn_none rfl) rfl rfl (yl_move hF rfl rfl) ?_
      clear hF; intro a hF
      refine seq_skip hF (wn_f hF rfl rfl rfl rfl) rfl rfl ?_
      clear hF; intro a hF
      refine seq_skip hF (wn_f hF rfl rfl rfl rfl) rfl rfl ?_
      clear hF; intro a hF
      refine seq_skip hF (wn_f hF rfl rfl rfl rfl) rfl rfl ?_
      clear hF; intro a hF
      refine seq_skip hF (wn_f hF rfl rfl rfl rfl) rfl rfl ?_
      clear hF; intro a hF
      refine seq_yl hF (wn_none rfl) rfl rfl (yl_pick (u := _) (v := undef) hF rfl rfl (fun h => by cases h) (fun _ => rfl)) ?_
      clear hF; intro a hF
      refine seq_yl hF (wn_none rfl) rfl rfl (yl_move hF rfl rfl) ?_
      clear hF; intro a hF
      refine seq_skip hF (wn_f hF rfl rfl rfl rfl) rfl rfl ?_
      clear hF; intro a hF
      refine seq_skip hF (wn_f hF rfl rfl rfl rfl) rfl rfl ?_
      clear hF; intro a hF
      refine seq_skip hF (wn_f hF rfl rfl rfl rfl) rfl rfl ?_
      clear hF; intro a hF
      refine seq_skip hF (wn_f hF rfl rfl rfl rfl) rfl rfl ?_
      clear hF; intro a hF
      refine seq_yl hF (wn_none rfl) rfl rfl (yl_pick (u := _) (v := undef) hF rfl rfl (fun h => by cases h) (fun _ => rfl)) ?_
      clear hF; intro a hF
      refine seq_yl hF (wn_none rfl) rfl rfl (yl_assign hF rfl rfl) ?_
      clear hF; intro a hF
      refine wpList_nil ?_
      refine then_n ?_
      refine wp_ret ?_
      refine ret_t hF rfl rfl ?_
      exact ⟨_, rfl, congrArg Value.bool (dec_f (by omega)), (hS.sub [] (by decide) (by first | rfl | simp) (by simp))⟩
  · first | (replace hc415 := of_decide_eq_false hc415) | (replace hc415 := of_decide_eq_true (bnot_f hc415)) | (subst hc415) | (replace hc415 := bnot_f hc415; subst hc415) | (replace hc415 := bnot_f hc415) | skip
    try (have hc415x := hc415; simp only [okS, okI, okW, okP] at hc415x)
    refine seq_skip hF (wn_f hF rfl rfl rfl rfl) rfl rfl ?_
    clear hF; intro a hF
    refine seq_skip hF (wn_f hF rfl rfl rfl rfl) rfl rfl ?_
    clear hF; intro a hF
    refine seq_skip hF (wn_f hF rfl rfl rfl rfl) rfl rfl ?_
    clear hF; intro a hF
    refine seq_skip hF (wn_f hF rfl rfl rfl rfl) rfl rfl ?_
    clear hF; intro a hF
    refine seq_yl hF (wn_none rfl) rfl rfl (yl_pick (u := _) (v := undef) hF rfl rfl (fun h => by cases h) (fun _ => rfl)) ?_
    clear hF; intro a hF
    refine seq_yl hF (wn_none rfl) rfl rfl (yl_move hF rfl rfl) ?_
    clear hF; intro a hF
    refine seq_skip hF (wn_f hF rfl rfl rfl rfl) rfl rfl ?_
    clear hF; intro a hF
    refine seq_skip hF (wn_f hF rfl rfl rfl rfl) rfl rfl ?_
    clear hF; intro a hF
    refine seq_skip hF (wn_f hF rfl rfl rfl rfl) rfl rfl ?_
    clear hF; intro a hF
    refine seq_yl hF (wn_none rfl) rfl rfl (yl_pick (u := _) (v := undef) hF rfl rfl (fun h => by cases h) (fun _ => rfl)) ?_
    clear hF; intro a hF
    refine seq_yl hF (wn_none rfl) rfl rfl (yl_move hF rfl rfl) ?_
    clear hF; intro a hF
    refine seq_skip hF (wn_f hF rfl rfl rfl rfl) rfl rfl ?_
    clear hF; intro a hF
    refine seq_skip hF (wn_f hF rfl rfl rfl rfl) rfl rfl ?_
    clear hF; intro a hF
    refine seq_skip hF (wn_f hF rfl rfl rfl rfl) rfl rfl ?_
    clear hF; intro a hF
    refine seq_skip hF (wn_f hF rfl rfl rfl rfl) rfl rfl ?_
    clear hF; intro a hF
    refine seq_yl hF (wn_none rfl) rfl rfl (yl_pick (u := _) (v := undef) hF rfl rfl (fun h => by cases h) (fun _ => rfl)) ?_
    clear hF; intro a hF
    refine seq_yl hF (wn_none rfl) rfl rfl (yl_move hF rfl rfl) ?_
    clear hF; intro a hF
    refine seq_skip hF (wn_f hF rfl rfl rfl rfl) rfl rfl ?_
    clear hF; intro a hF
    refine seq_skip hF (wn_f hF rfl rfl rfl rfl) rfl rfl ?_
    clear hF; intro a hF
    refine seq_skip hF (wn_f hF rfl rfl rfl rfl) rfl rfl ?_
    clear hF; intro a hF
    refine seq_skip hF (wn_f hF rfl rfl rfl rfl) rfl rfl ?_
    clear hF; intro a hF
    refine seq_yl hF (wn_none rfl) rfl rfl (yl_pick (u := _) (v := undef) hF rfl rfl (fun h => by cases h) (fun _ => rfl)) ?_
    clear hF; intro a hF
    refine seq_yl hF (wn_none rfl) rfl rfl (yl_assign hF rfl rfl) ?_
    clear hF; intro a hF
    refine wpList_nil ?_
    refine then_n ?_
    refine wp_ret ?_
    refine ret_t hF rfl rfl ?_
    exact ⟨_, rfl, congrArg Value.bool (dec_f (by omega)), (hS.sub [] (by decide) (by first | rfl | simp) (by simp))⟩

set_option maxHeartbeats 1000000 in
set_option maxRecDepth 100000 in
theorem flying_any (st : ByteArray) (lv : Value) (rm : Int) (mv : Value) (N : List Int) (w0 : World) (hm : Rd w0 1 mv (N).length (cells encI (N))) (hN : N.length ≤ 9223372036854775807) (hI : okI (st.size : Int)) (h8 : 8 ≤ (st.size : Int)) :
    Fn Try.prog 21 #[.agg #[.string st, lv, .int .i64 rm], mv] w0 (fun v w' => ∃ (v1 : Value) (F : List E59), v = v1 ∧ (F.length ≤ 4 ∧ flQ (st.size : Int) F) ∧ Sat w0 w' [.row 59 2 v1 (F).length (cells enc59 (F))]) := by
  have hI9 := hI
  unfold okI at hI9
  obtain ⟨Amv, cmv, rfl⟩ := Rd.form hm
  refine c_enter (N := 35) (l := [_, _]) Try.func21 rfl rfl (fun a w hF hS => ?_)
  replace hS := hS.addRo hm
  refine c_seq ?_
  refine c_region ?_
  refine seq_wp (wn_none rfl) (wp_box (cs := #[_, _, _]) hF hS rfl rfl rfl rfl rfl ?_)
  clear hF hS; intro a w g419 hF hS
  refine seq_yl hF (wn_none rfl) rfl rfl (yl_assign hF rfl rfl) ?_
  clear hF; intro a hF
  refine wpList_nil ?_
  refine then_n ?_
  refine c_seq ?_
  refine c_region ?_
  refine seq_yl hF (wn_none rfl) rfl rfl (yl_assign hF rfl rfl) ?_
  clear hF; intro a hF
  refine wpList_nil ?_
  refine then_n ?_
  refine c_seq ?_
  refine c_seq ?_
  refine c_region ?_
  refine seq_yl hF (wn_none rfl) rfl rfl (yl_assign hF rfl rfl) ?_
  clear hF; intro a hF
  refine wpList_nil ?_
  refine then_n ?_
  refine wp_block ?_
  replace hS := hS.addNil 59 2
  refine c_loop (fun m a w => ∃ (i : Nat) (F1 : List E59) (AvF : Option Addr) (cvF : Nat), m = 4 - i ∧ (i ≤ 4 ∧ F1.length ≤ i ∧ flQ (st.size : Int) F1) ∧ Fr 35 a [(1, .slice Amv (N).length cmv), (2, .pointer (some ⟨g419, 0, none⟩)), (5, .slice AvF (F1).length cvF), (6, .int .i64 ((i : Nat) : Int))] ∧ Sat w0 w (.ro 1 (.slice Amv (N).length cmv) (N).length (cells encI (N)) :: .box g419 24 #[.string st, lv, .int .i64 (rm)] :: .row 59 2 (.slice AvF (F1).length cvF) (F1).length (cells enc59 (F1)) :: [])) (4 - 0) ?_ ?_
  · exact ⟨0, [], none, 0, rfl, ⟨by omega, by simp, flQ_nil _⟩, hF.to [1, 2, 5, 6] rfl, (hS.sub [2, 1, 0] (by decide) (by first | rfl | simp) (by simp))⟩
  · clear hF hS; try clear hSS
    clear a w; rintro m a w ⟨i, F1, AvF, cvF, rfl, hinv, hF, hS⟩
    obtain ⟨hi, hfl, hfq⟩ := hinv
    refine c_seq ?_
    refine c_seq ?_
    refine c_region ?_
    refine seq_yl hF (wn_none rfl) rfl rfl (yl_move hF rfl rfl) ?_
    clear hF; intro a hF
    refine seq_yl hF (wn_none rfl) rfl rfl (yl_move hF rfl rfl) ?_
    clear hF; intro a hF
    refine seq_yl hF (wn_none rfl) rfl rfl (yl_len hF rfl rfl (fun _ => run_lenRd sl25 (hS.rdRo 0 rfl))) ?_
    clear hF; intro a hF
    refine seq_yl hF (wn_none rfl) rfl rfl (yl_bin hF rfl rfl rfl rfl (fun _ => run_lss)) ?_
    clear hF; intro a hF
    refine seq_yl hF (wn_none rfl) rfl rfl (yl_move hF rfl rfl) ?_
    clear hF; intro a hF
    refine fr_split hF (fun hc420 hF => ?_) (fun hc420 hF => ?_)
    · first | (replace hc420 := of_decide_eq_true hc420) | (replace hc420 := of_decide_eq_false (bnot_t hc420)) | (subst hc420) | (replace hc420 := bnot_t hc420; subst hc420) | (replace hc420 := bnot_t hc420) | skip
      try (have hc420x := hc420; simp only [okS, okI, okW, okP] at hc420x)
      refine seq_yl hF (wn_t hF rfl rfl rfl rfl) rfl rfl (yl_move hF rfl rfl) ?_
      clear hF; intro a hF
      refine seq_yl hF (wn_t hF rfl rfl rfl rfl) rfl rfl (yl_bin hF rfl rfl rfl rfl (fun _ => run_lss)) ?_
      clear hF; intro a hF
      refine seq_yl hF (wn_none rfl) rfl rfl (yl_pick (u := _) (v := undef) hF rfl rfl (fun _ => rfl) (fun h => by cases h)) ?_
      clear hF; intro a hF
      refine wpList_nil ?_
      refine then_n ?_
      refine c_cond hF rfl (fun hc421 => ?_) (fun hc421 => ?_)
      · first | (replace hc421 := of_decide_eq_true hc421) | (replace hc421 := of_decide_eq_false (bnot_t hc421)) | (subst hc421) | (replace hc421 := bnot_t hc421; subst hc421) | (replace hc421 := bnot_t hc421) | skip
        try (have hc421x := hc421; simp only [okS, okI, okW, okP] at hc421x)
        refine wp_skip ?_
        refine then_n ?_
        refine c_seq ?_
        refine wp_block ?_
        refine ha_startS hS [0, 1] 18 (by kernel_rfl) ?_; clear hS; intro w hS
        have hSS := hS.sub [0, 1] (by decide) rfl (by simp)
        refine ha_y 0 hF rfl rfl rfl (wn_none rfl) (.inr hSS) (yl_move hF rfl rfl) ?_
        clear hF; intro a hF
        refine ha_y 1 hF rfl rfl rfl (wn_none rfl) (.inr hSS) (yl_move hF rfl rfl) ?_
        clear hF; intro a hF
        refine ha_y 2 hF rfl rfl rfl (wn_none rfl) (.inr hSS) (yl_move hF rfl rfl) ?_
        clear hF; intro a hF
        have hlt_hx422 : i < (N).length := by first | omega | (simp; done) | (simp; omega)
        obtain ⟨ad423, rfl⟩ := rd_some (hS.rdRo 0 rfl) hlt_hx422
        obtain ⟨x422, hx422⟩ := get_some hlt_hx422
        refine ha_y 3 hF rfl rfl rfl (wn_none rfl) (.inr hSS) (yl_indexAddr hF rfl rfl rfl (fun _ => run_idx' sl25 sz3 (hS.rdRo 0 rfl) hlt_hx422)) ?_
        clear hF; intro a hF
        refine ha_y 8 hF rfl rfl rfl (wn_none rfl) (.inr hSS) (yl_move hF rfl rfl) ?_
        clear hF; intro a hF
        refine ha_y 9 hF rfl rfl rfl (wn_none rfl) (.inr hSS) (yl_move hF rfl rfl) ?_
        clear hF; intro a hF
        refine ha_y 10 hF rfl rfl rfl (wn_none rfl) (.inr hSS) (yl_indexAddr hF rfl rfl rfl (fun _ => run_idx' sl25 sz3 (hS.rdRo 0 rfl) hlt_hx422)) ?_
        clear hF; intro a hF
        refine ha_l 4 hF rfl rfl rfl (wn_none rfl) hSS (yl_loadAt hF rfl rfl ag3 (fun _ h => rd_cell0 (enc := encI) (Sat.rdRo h 0 rfl) encI_len hx422 rfl rfl)) ?_
        clear hF; intro a hF
        refine ha_l 5 hF rfl rfl rfl (wn_none rfl) hSS (yl_loadK (rs := [_, _, _]) (fun _ h => h) hF rfl rfl 1 rfl ag24 sz24 rfl rfl) ?_
        clear hF; intro a hF
        refine ha_l 11 hF rfl rfl rfl (wn_none rfl) hSS (yl_loadAt hF rfl rfl ag3 (fun _ h => rd_cell0 (enc := encI) (Sat.rdRo h 0 rfl) encI_len hx422 rfl rfl)) ?_
        clear hF; intro a hF
        refine ha_y 12 hF rfl rfl rfl (wn_none rfl) (.inr hSS) (yl_bin hF rfl rfl rfl rfl (fun _ => run_shr (c := 4) (d := 16) (by decide) (by decide))) ?_
        clear hF; intro a hF
        refine ha_one 6 (by kernel_rfl) rfl (wn_none rfl) (wp_call (vs := [_]) hF rfl rfl rfl rfl cf27 (secs_any st _ _ _ (by omega)) ?_)
        clear hF; rintro _ w ⟨rfl, hS1⟩ a hF
        replace hS := hS.callB hS1 rfl; clear hS1
        replace hSS := hS.sub [0, 1] (by decide) rfl (by simp)
        refine ⟨.inr hSS, ?_⟩
        have hr424 := rnd_bounds (x422) ((((st).size : Int) / 8)) (by omega)
        refine ha_one 7 (by kernel_rfl) rfl (wn_none rfl) (wp_call (vs := [_, _]) hF rfl rfl rfl rfl cf24 (round_any (x422) ((((st).size : Int) / 8)) _ (by omega)) ?_)
        clear hF; rintro _ w ⟨rfl, hS1⟩ a hF
        replace hS := hS.callB hS1 rfl; clear hS1
        replace hSS := hS.sub [0, 1] (by decide) rfl (by simp)
        refine ⟨.inr hSS, ?_⟩
        refine ha_one 13 (by kernel_rfl) rfl (wn_none rfl) (wp_call (vs := [_, _]) hF rfl rfl rfl rfl cf25 (data_any (((x422) / 16)) (1 : Int) _ (by omega)) ?_)
        clear hF; rintro _ w ⟨rfl, hS1⟩ a hF
        replace hS := hS.callB hS1 rfl; clear hS1
        have hz425 := dataF_size (((x422) / 16)) (1 : Int)
        replace hSS := hS.sub [0, 1] (by decide) rfl (by simp)
        refine ⟨.inr hSS, ?_⟩
        refine ha_y 14 hF rfl rfl rfl (wn_none rfl) (.inr hSS) (yl_build (parts := [(0, .tmp 24), (1, .tmp 30)]) (vs := [(0, _), (1, _)]) (cs := [_, _]) hF bd59 rfl rfl rfl rfl) ?_
        clear hF; intro a hF
        refine ha_one 15 (by kernel_rfl) rfl (wn_none rfl) (wp_bslice (parts := [(0, .tmp 31)]) (vs := [(0, _)]) (enc := enc59) (e := 59) (size := 2) (cs := #[.int .i64 ((rnd (x422) ((((st).size : Int) / 8)))), .string (dataF (((x422) / 16)) (1 : Int))]) hF hS rfl rfl rfl rfl ([(E59.mk ((rnd (x422) ((((st).size : Int) / 8)))) (dataF (((x422) / 16)) (1 : Int)))] : List E59) (fun w => by kernel_rfl) rfl rfl rfl (by decide) ?_)
        clear hF hS; intro a w v426 hF hS
        obtain ⟨Av426, cv426, rfl⟩ := hS.form 0 rfl
        replace hSS := hS.sub [1, 2] (by decide) rfl (by simp)
        refine ⟨.inr hSS, ?_⟩
        refine ha_one 16 (by kernel_rfl) rfl (wn_none rfl) (wp_app (enc := enc59) hF hS rfl rfl rfl rfl rfl 3 rfl sl22 inf59 rfl (by decide) (hS.rdRow 0 rfl) enc59_one (by decide) (by first | omega | (simp only [List.length_append, List.length_cons, List.length_nil]; omega) | (simp; omega)) ?_)
        clear hF hS; intro a w v427 hF hS
        obtain ⟨Av427, cv427, rfl⟩ := hS.form 3 rfl
        replace hSS := hS.sub [1, 2] (by decide) rfl (by simp)
        refine ⟨.inr hSS, ?_⟩
        refine ha_y 17 hF rfl rfl rfl (wn_none rfl) (.inr hSS) (yl_assign hF rfl rfl) ?_
        clear hF; intro a hF
        refine ha_done (by kernel_rfl) ?_ _
        refine inb_n ?_
        refine then_n ?_
        refine c_region ?_
        refine seq_yl hF (wn_none rfl) rfl rfl (yl_move hF rfl rfl) ?_
        clear hF; intro a hF
        refine seq_yl hF (wn_none rfl) rfl rfl (yl_bin hF rfl rfl rfl rfl (fun _ => run_inc (by omega))) ?_
        clear hF; intro a hF
        refine seq_yl hF (wn_none rfl) rfl rfl (yl_assign hF rfl rfl) ?_
        clear hF; intro a hF
        refine wpList_nil ?_
        refine then_n ?_
        exact ⟨_, (by omega), i + 1, _, Av427, cv427, rfl, ⟨by omega, by simp; omega, flQ_app hfq ⟨by dsimp only; unfold okS okI; omega, dataF_size _ _⟩ (noQ_data _ _)⟩, hF.to [1, 2, 5, 6] rfl, (hS.sub [1, 2, 3] (by decide) (by first | rfl | simp) (by simp))⟩
      · first | (replace hc421 := of_decide_eq_false hc421) | (replace hc421 := of_decide_eq_true (bnot_f hc421)) | (subst hc421) | (replace hc421 := bnot_f hc421; subst hc421) | (replace hc421 := bnot_f hc421) | skip
        try (have hc421x := hc421; simp only [okS, okI, okW, okP] at hc421x)
        refine wp_exit ?_
        refine then_x ?_
        refine then_x ?_
        refine inb_x ?_
        refine then_n ?_
        refine c_seq ?_
        refine c_region ?_
        refine seq_yl hF (wn_none rfl) rfl rfl (yl_move hF rfl rfl) ?_
        clear hF; intro a hF
        refine seq_yl hF (wn_none rfl) rfl rfl (yl_assign hF rfl rfl) ?_
        clear hF; intro a hF
        refine wpList_nil ?_
        refine then_n ?_
        refine wp_ret ?_
        refine ret_t hF rfl rfl ?_
        exact ⟨_, rfl, _, _, rfl, ⟨by omega, hfq⟩, (hS.sub [2] (by decide) (by first | rfl | simp) (by simp))⟩
    · first | (replace hc420 := of_decide_eq_false hc420) | (replace hc420 := of_decide_eq_true (bnot_f hc420)) | (subst hc420) | (replace hc420 := bnot_f hc420; subst hc420) | (replace hc420 := bnot_f hc420) | skip
      try (have hc420x := hc420; simp only [okS, okI, okW, okP] at hc420x)
      refine seq_skip hF (wn_f hF rfl rfl rfl rfl) rfl rfl ?_
      clear hF; intro a hF
      refine seq_skip hF (wn_f hF rfl rfl rfl rfl) rfl rfl ?_
      clear hF; intro a hF
      refine seq_yl hF (wn_none rfl) rfl rfl (yl_pick (u := _) (v := undef) hF rfl rfl (fun h => by cases h) (fun _ => rfl)) ?_
      clear hF; intro a hF
      refine wpList_nil ?_
      refine then_n ?_
      refine c_cond_f hF rfl ?_
      refine wp_exit ?_
      refine then_x ?_
      refine then_x ?_
      refine inb_x ?_
      refine then_n ?_
      refine c_seq ?_
      refine c_region ?_
      refine seq_yl hF (wn_none rfl) rfl rfl (yl_move hF rfl rfl) ?_
      clear hF; intro a hF
      refine seq_yl hF (wn_none rfl) rfl rfl (yl_assign hF rfl rfl) ?_
      clear hF; intro a hF
      refine wpList_nil ?_
      refine then_n ?_
      refine wp_ret ?_
      refine ret_t hF rfl rfl ?_
      exact ⟨_, rfl, _, _, rfl, ⟨by omega, hfq⟩, (hS.sub [2] (by decide) (by first | rfl | simp) (by simp))⟩

set_option maxHeartbeats 1000000 in
set_option maxRecDepth 100000 in
theorem choice_any (mv : Value) (N : List Int) (w0 : World) (hm : Rd w0 1 mv (N).length (cells encI (N))) (hN : N.length ≤ 9223372036854775807) :
    Fn Try.prog 22 #[mv] w0 (fun v w' => ∃ (pv : Value) (P : List Int) (tv : Value) (T : List Bool), v = .agg #[pv, tv] ∧ (P.length ≤ 8 ∧ T.length ≤ 8) ∧ Sat w0 w' [.row 3 1 pv (P).length (cells encI (P)), .row 4 1 tv (T).length (cells encB (T))]) := by
  obtain ⟨Amv, cmv, rfl⟩ := Rd.form hm
  refine c_enter (N := 39) (l := [_]) Try.func22 rfl rfl (fun a w hF hS => ?_)
  replace hS := hS.addRo hm
  refine c_seq ?_
  refine c_region ?_
  refine seq_wp (wn_none rfl) (wp_alloc (cs := #[_, _]) hF hS rfl rfl rfl zr28 rfl ?_)
  clear hF hS; intro a w g428 hF hS
  refine wpList_nil ?_
  refine then_n ?_
  refine c_seq ?_
  refine c_region ?_
  refine seq_wp (wn_none rfl) (wp_alloc (cs := #[_, _]) hF hS rfl rfl rfl zr28 rfl ?_)
  clear hF hS; intro a w g429 hF hS
  refine wpList_nil ?_
  refine then_n ?_
  refine c_seq ?_
  refine c_seq ?_
  refine c_region ?_
  refine seq_yl hF (wn_none rfl) rfl rfl (yl_assign hF rfl rfl) ?_
  clear hF; intro a hF
  refine wpList_nil ?_
  refine then_n ?_
  refine wp_block ?_
  replace hS := hS.addNil 3 1
  replace hS := hS.addNil 4 1
  refine c_loop (fun m a w => ∃ (i : Nat) (P1 : List Int) (T1 : List Bool) (AvP : Option Addr) (cvP : Nat) (AvT : Option Addr) (cvT : Nat), m = 8 - i ∧ (i ≤ 8 ∧ P1.length ≤ i ∧ T1.length ≤ i) ∧ Fr 39 a [(0, .slice Amv (N).length cmv), (2, .pointer (some ⟨g428, 0, none⟩)), (3, .pointer (some ⟨g429, 0, none⟩)), (4, .int .i64 ((i : Nat) : Int))] ∧ Sat w0 w (.ro 1 (.slice Amv (N).length cmv) (N).length (cells encI (N)) :: .box g428 28 #[.slice none 0 0, .slice none 0 0] :: .box g429 28 #[.slice AvP (P1).length cvP, .slice AvT (T1).length cvT] :: .row 3 1 (.slice AvP (P1).length cvP) (P1).length (cells encI (P1)) :: .row 4 1 (.slice AvT (T1).length cvT) (T1).length (cells encB (T1)) :: [])) (8 - 0) ?_ ?_
  · exact ⟨0, [], [], none, 0, none, 0, rfl, ⟨by omega, by simp, by simp⟩, hF.to [0, 2, 3, 4] rfl, (hS.sub [4, 3, 2, 1, 0] (by decide) (by first | rfl | simp) (by simp))⟩
  · clear hF hS; try clear hSS
    clear a w; rintro m a w ⟨i, P1, T1, AvP, cvP, AvT, cvT, rfl, hinv, hF, hS⟩
    obtain ⟨hi, hpl, htl⟩ := hinv
    refine c_seq ?_
    refine c_seq ?_
    refine c_region ?_
    refine seq_yl hF (wn_none rfl) rfl rfl (yl_move hF rfl rfl) ?_
    clear hF; intro a hF
    refine seq_yl hF (wn_none rfl) rfl rfl (yl_move hF rfl rfl) ?_
    clear hF; intro a hF
    refine seq_yl hF (wn_none rfl) rfl rfl (yl_len hF rfl rfl (fun _ => run_lenRd sl25 (hS.rdRo 0 rfl))) ?_
    clear hF; intro a hF
    refine seq_yl hF (wn_none rfl) rfl rfl (yl_bin hF rfl rfl rfl rfl (fun _ => run_lss)) ?_
    clear hF; intro a hF
    refine seq_yl hF (wn_none rfl) rfl rfl (yl_move hF rfl rfl) ?_
    clear hF; intro a hF
    refine fr_split hF (fun hc430 hF => ?_) (fun hc430 hF => ?_)
    · first | (replace hc430 := of_decide_eq_true hc430) | (replace hc430 := of_decide_eq_false (bnot_t hc430)) | (subst hc430) | (replace hc430 := bnot_t hc430; subst hc430) | (replace hc430 := bnot_t hc430) | skip
      try (have hc430x := hc430; simp only [okS, okI, okW, okP] at hc430x)
      refine seq_yl hF (wn_t hF rfl rfl rfl rfl) rfl rfl (yl_move hF rfl rfl) ?_
      clear hF; intro a hF
      refine seq_yl hF (wn_t hF rfl rfl rfl rfl) rfl rfl (yl_bin hF rfl rfl rfl rfl (fun _ => run_lss)) ?_
      clear hF; intro a hF
      refine seq_yl hF (wn_none rfl) rfl rfl (yl_pick (u := _) (v := undef) hF rfl rfl (fun _ => rfl) (fun h => by cases h)) ?_
      clear hF; intro a hF
      refine wpList_nil ?_
      refine then_n ?_
      refine c_cond hF rfl (fun hc431 => ?_) (fun hc431 => ?_)
      · first | (replace hc431 := of_decide_eq_true hc431) | (replace hc431 := of_decide_eq_false (bnot_t hc431)) | (subst hc431) | (replace hc431 := bnot_t hc431; subst hc431) | (replace hc431 := bnot_t hc431) | skip
        try (have hc431x := hc431; simp only [okS, okI, okW, okP] at hc431x)
        refine wp_skip ?_
        refine then_n ?_
        refine c_seq ?_
        refine wp_block ?_
        refine c_seq ?_
        refine ha_startS hS [2, 0] 11 (by kernel_rfl) ?_; clear hS; intro w hS
        have hSS := hS.sub [2, 0] (by decide) rfl (by simp)
        refine ha_y 0 hF rfl rfl rfl (wn_none rfl) (.inr hSS) (yl_fieldAddr hF rfl rfl (fun w => by kernel_rfl : ∀ w, (Instr.fieldAt 28 (.pointer (some ⟨g429, 0, none⟩)) 0).run Try.prog w = .ok (.pointer (some ⟨g429, 0, none⟩)) w)) ?_
        clear hF; intro a hF
        refine ha_y 2 hF rfl rfl rfl (wn_none rfl) (.inr hSS) (yl_move hF rfl rfl) ?_
        clear hF; intro a hF
        refine ha_y 3 hF rfl rfl rfl (wn_none rfl) (.inr hSS) (yl_move hF rfl rfl) ?_
        clear hF; intro a hF
        have hlt_hx432 : i < (N).length := by first | omega | (simp; done) | (simp; omega)
        obtain ⟨ad433, rfl⟩ := rd_some (hS.rdRo 0 rfl) hlt_hx432
        obtain ⟨x432, hx432⟩ := get_some hlt_hx432
        refine ha_y 4 hF rfl rfl rfl (wn_none rfl) (.inr hSS) (yl_indexAddr hF rfl rfl rfl (fun _ => run_idx' sl25 sz3 (hS.rdRo 0 rfl) hlt_hx432)) ?_
        clear hF; intro a hF
        refine ha_l 1 hF rfl rfl rfl (wn_none rfl) hSS (yl_load (fun _ h => h) hF rfl rfl 0 rfl ag25 rfl) ?_
        clear hF; intro a hF
        refine ha_l 5 hF rfl rfl rfl (wn_none rfl) hSS (yl_loadAt hF rfl rfl ag3 (fun _ h => rd_cell0 (enc := encI) (Sat.rdRo h 1 rfl) encI_len hx432 rfl rfl)) ?_
        clear hF; intro a hF
        have hr434 := rnd_bounds (x432) (6 : Int) (by omega)
        refine ha_one 6 (by kernel_rfl) rfl (wn_none rfl) (wp_call (vs := [_, _]) hF rfl rfl rfl rfl cf24 (round_any (x432) (6 : Int) _ (by omega)) ?_)
        clear hF; rintro _ w ⟨rfl, hS1⟩ a hF
        replace hS := hS.callB hS1 rfl; clear hS1
        replace hSS := hS.sub [2, 0] (by decide) rfl (by simp)
        refine ⟨.inr hSS, ?_⟩
        refine ha_y 7 hF rfl rfl rfl (wn_none rfl) (.inr hSS) (yl_bin hF rfl rfl rfl rfl (fun _ => run_sub (by refine ⟨?_, ?_⟩ <;> omega))) ?_
        clear hF; intro a hF
        refine ha_one 8 (by kernel_rfl) rfl (wn_none rfl) (wp_bslice (parts := [(0, .tmp 22)]) (vs := [(0, _)]) (enc := encI) (e := 3) (size := 1) (cs := #[.int .i64 ((((rnd (x432) (6 : Int))) - (1 : Int)))]) hF hS rfl rfl rfl rfl ([((((rnd (x432) (6 : Int))) - (1 : Int)))] : List Int) (fun w => by kernel_rfl) rfl rfl rfl (by decide) ?_)
        clear hF hS; intro a w v435 hF hS
        obtain ⟨Av435, cv435, rfl⟩ := hS.form 0 rfl
        replace hSS := hS.sub [3, 1] (by decide) rfl (by simp)
        refine ⟨.inr hSS, ?_⟩
        refine ha_one 9 (by kernel_rfl) rfl (wn_none rfl) (wp_app (enc := encI) hF hS rfl rfl rfl rfl rfl 4 rfl sl25 inf3 rfl (by decide) (hS.rdRow 0 rfl) encI_one (by decide) (by first | omega | (simp only [List.length_append, List.length_cons, List.length_nil]; omega) | (simp; omega)) ?_)
        clear hF hS; intro a w v436 hF hS
        obtain ⟨Av436, cv436, rfl⟩ := hS.form 4 rfl
        replace hSS := hS.sub [3, 1] (by decide) rfl (by simp)
        refine ⟨.inr hSS, ?_⟩
        refine ha_y 10 hF rfl rfl rfl (wn_none rfl) (.inr hSS) (yl_fieldAddr hF rfl rfl (fun w => by kernel_rfl : ∀ w, (Instr.fieldAt 28 (.pointer (some ⟨g429, 0, none⟩)) 0).run Try.prog w = .ok (.pointer (some ⟨g429, 0, none⟩)) w)) ?_
        clear hF; intro a hF
        refine ha_one 11 (by kernel_rfl) rfl (wn_none rfl) (wp_store (cs' := #[_, _]) hF hS rfl rfl rfl rfl 3 rfl sz25 (by simp [Value.cells, Value.oneCell']) (by simp [Value.cells]) rfl ?_)
        clear hF hS; intro a w hF hS
        refine ⟨.inl (by kernel_rfl), ?_⟩
        refine ha_done (by kernel_rfl) ?_ _
        refine then_n ?_
        refine ha_startS hS [3, 1] 12 (by kernel_rfl) ?_; clear hS; intro w hS
        have hSS := hS.sub [3, 1] (by decide) rfl (by simp)
        refine ha_y 0 hF rfl rfl rfl (wn_none rfl) (.inr hSS) (yl_fieldAddr hF rfl rfl (fun w => by kernel_rfl : ∀ w, (Instr.fieldAt 28 (.pointer (some ⟨g429, 0, none⟩)) 1).run Try.prog w = .ok (.pointer (some ⟨g429, 1, none⟩)) w)) ?_
        clear hF; intro a hF
        refine ha_y 2 hF rfl rfl rfl (wn_none rfl) (.inr hSS) (yl_move hF rfl rfl) ?_
        clear hF; intro a hF
        refine ha_y 3 hF rfl rfl rfl (wn_none rfl) (.inr hSS) (yl_move hF rfl rfl) ?_
        clear hF; intro a hF
        refine ha_y 4 hF rfl rfl rfl (wn_none rfl) (.inr hSS) (yl_indexAddr hF rfl rfl rfl (fun _ => run_idx' sl25 sz3 (hS.rdRo 1 rfl) hlt_hx432)) ?_
        clear hF; intro a hF
        refine ha_l 1 hF rfl rfl rfl (wn_none rfl) hSS (yl_load (fun _ h => h) hF rfl rfl 0 rfl ag26 rfl) ?_
        clear hF; intro a hF
        refine ha_l 5 hF rfl rfl rfl (wn_none rfl) hSS (yl_loadAt hF rfl rfl ag3 (fun _ h => rd_cell0 (enc := encI) (Sat.rdRo h 1 rfl) encI_len hx432 rfl rfl)) ?_
        clear hF; intro a hF
        refine ha_y 6 hF rfl rfl rfl (wn_none rfl) (.inr hSS) (yl_bin hF rfl rfl rfl rfl (fun _ => run_shr (c := 4) (d := 16) (by decide) (by decide))) ?_
        clear hF; intro a hF
        have hr437 := rnd_bounds (((x432) / 16)) (3 : Int) (by omega)
        refine ha_one 7 (by kernel_rfl) rfl (wn_none rfl) (wp_call (vs := [_, _]) hF rfl rfl rfl rfl cf24 (round_any (((x432) / 16)) (3 : Int) _ (by omega)) ?_)
        clear hF; rintro _ w ⟨rfl, hS1⟩ a hF
        replace hS := hS.callB hS1 rfl; clear hS1
        replace hSS := hS.sub [3, 1] (by decide) rfl (by simp)
        refine ⟨.inr hSS, ?_⟩
        refine ha_y 8 hF rfl rfl rfl (wn_none rfl) (.inr hSS) (yl_bin hF rfl rfl rfl rfl (fun _ => run_eql)) ?_
        clear hF; intro a hF
        refine ha_one 9 (by kernel_rfl) rfl (wn_none rfl) (wp_bslice (parts := [(0, .tmp 34)]) (vs := [(0, _)]) (enc := encB) (e := 4) (size := 1) (cs := #[.bool (decide (((rnd (((x432) / 16)) (3 : Int))) = (0 : Int)))]) hF hS rfl rfl rfl rfl ([(decide (((rnd (((x432) / 16)) (3 : Int))) = (0 : Int)))] : List Bool) (fun w => by kernel_rfl) rfl rfl rfl (by decide) ?_)
        clear hF hS; intro a w v438 hF hS
        obtain ⟨Av438, cv438, rfl⟩ := hS.form 0 rfl
        replace hSS := hS.sub [4, 2] (by decide) rfl (by simp)
        refine ⟨.inr hSS, ?_⟩
        refine ha_one 10 (by kernel_rfl) rfl (wn_none rfl) (wp_app (enc := encB) hF hS rfl rfl rfl rfl rfl 6 rfl sl26 inf4 rfl (by decide) (hS.rdRow 0 rfl) encB_one (by decide) (by first | omega | (simp only [List.length_append, List.length_cons, List.length_nil]; omega) | (simp; omega)) ?_)
        clear hF hS; intro a w v439 hF hS
        obtain ⟨Av439, cv439, rfl⟩ := hS.form 6 rfl
        replace hSS := hS.sub [4, 2] (by decide) rfl (by simp)
        refine ⟨.inr hSS, ?_⟩
        refine ha_y 11 hF rfl rfl rfl (wn_none rfl) (.inr hSS) (yl_fieldAddr hF rfl rfl (fun w => by kernel_rfl : ∀ w, (Instr.fieldAt 28 (.pointer (some ⟨g429, 0, none⟩)) 1).run Try.prog w = .ok (.pointer (some ⟨g429, 1, none⟩)) w)) ?_
        clear hF; intro a hF
        refine ha_one 12 (by kernel_rfl) rfl (wn_none rfl) (wp_store (cs' := #[_, _]) hF hS rfl rfl rfl rfl 4 rfl sz26 (by simp [Value.cells, Value.oneCell']) (by simp [Value.cells]) rfl ?_)
        clear hF hS; intro a w hF hS
        refine ⟨.inl (by kernel_rfl), ?_⟩
        refine ha_done (by kernel_rfl) ?_ _
        refine inb_n ?_
        refine then_n ?_
        refine c_region ?_
        refine seq_yl hF (wn_none rfl) rfl rfl (yl_move hF rfl rfl) ?_
        clear hF; intro a hF
        refine seq_yl hF (wn_none rfl) rfl rfl (yl_bin hF rfl rfl rfl rfl (fun _ => run_inc (by omega))) ?_
        clear hF; intro a hF
        refine seq_yl hF (wn_none rfl) rfl rfl (yl_assign hF rfl rfl) ?_
        clear hF; intro a hF
        refine wpList_nil ?_
        refine then_n ?_
        exact ⟨_, (by omega), i + 1, (P1 ++ ([((((rnd (x432) (6 : Int))) - (1 : Int)))] : List Int)), (T1 ++ ([(decide (((rnd (((x432) / 16)) (3 : Int))) = (0 : Int)))] : List Bool)), Av436, cv436, Av439, cv439, rfl, ⟨by omega, by simp; omega, by simp; omega⟩, hF.to [0, 2, 3, 4] rfl, (hS.sub [2, 3, 4, 5, 6] (by decide) (by first | rfl | simp) (by simp))⟩
      · first | (replace hc431 := of_decide_eq_false hc431) | (replace hc431 := of_decide_eq_true (bnot_f hc431)) | (subst hc431) | (replace hc431 := bnot_f hc431; subst hc431) | (replace hc431 := bnot_f hc431) | skip
        try (have hc431x := hc431; simp only [okS, okI, okW, okP] at hc431x)
        refine wp_exit ?_
        refine then_x ?_
        refine then_x ?_
        refine inb_x ?_
        refine then_n ?_
        refine c_seq ?_
        refine c_region ?_
        refine seq_yl hF (wn_none rfl) rfl rfl (yl_loadK (rs := [_, _]) (fun _ h => h ▸ hS) hF rfl rfl 2 rfl ag28 sz28 rfl rfl) ?_
        clear hF; intro a hF
        refine seq_wp (wn_none rfl) (wp_store (cs' := #[_, _]) hF hS rfl rfl rfl rfl 1 rfl sz28 (by simp [Value.cells, Value.oneCell']) (by simp [Value.cells]) rfl ?_)
        clear hF hS; intro a w hF hS
        refine wpList_nil ?_
        refine then_n ?_
        refine wp_ret ?_
        refine ret_c hF rfl (resC hS rfl 1 rfl ag28 sz28) ?_
        exact ⟨_, rfl, _, P1, _, T1, rfl, ⟨by omega, by omega⟩, (hS.sub [3, 4] (by decide) (by first | rfl | simp) (by simp))⟩
    · first | (replace hc430 := of_decide_eq_false hc430) | (replace hc430 := of_decide_eq_true (bnot_f hc430)) | (subst hc430) | (replace hc430 := bnot_f hc430; subst hc430) | (replace hc430 := bnot_f hc430) | skip
      try (have hc430x := hc430; simp only [okS, okI, okW, okP] at hc430x)
      refine seq_skip hF (wn_f hF rfl rfl rfl rfl) rfl rfl ?_
      clear hF; intro a hF
      refine seq_skip hF (wn_f hF rfl rfl rfl rfl) rfl rfl ?_
      clear hF; intro a hF
      refine seq_yl hF (wn_none rfl) rfl rfl (yl_pick (u := _) (v := undef) hF rfl rfl (fun h => by cases h) (fun _ => rfl)) ?_
      clear hF; intro a hF
      refine wpList_nil ?_
      refine then_n ?_
      refine c_cond_f hF rfl ?_
      refine wp_exit ?_
      refine then_x ?_
      refine then_x ?_
      refine inb_x ?_
      refine then_n ?_
      refine c_seq ?_
      refine c_region ?_
      refine seq_yl hF (wn_none rfl) rfl rfl (yl_loadK (rs := [_, _]) (fun _ h => h ▸ hS) hF rfl rfl 2 rfl ag28 sz28 rfl rfl) ?_
      clear hF; intro a hF
      refine seq_wp (wn_none rfl) (wp_store (cs' := #[_, _]) hF hS rfl rfl rfl rfl 1 rfl sz28 (by simp [Value.cells, Value.oneCell']) (by simp [Value.cells]) rfl ?_)
      clear hF hS; intro a w hF hS
      refine wpList_nil ?_
      refine then_n ?_
      refine wp_ret ?_
      refine ret_c hF rfl (resC hS rfl 1 rfl ag28 sz28) ?_
      exact ⟨_, rfl, _, P1, _, T1, rfl, ⟨by omega, by omega⟩, (hS.sub [3, 4] (by decide) (by first | rfl | simp) (by simp))⟩

end Go.Proofs.Ytlhcpeolkkadbaa

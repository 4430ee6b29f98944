/- walks, printed by wip/gen -/
import Derived.Test.YtglooclndbfhgaaW1
namespace Go.Proofs.Ytglooclndbfhgaa
open Go.RowKit
set_option linter.unusedVariables false
set_option linter.unusedSimpArgs false

theorem begin_any (vw vr : Value) (W R : List Int) (b : Bool) (w0 : World) (hw : Rd w0 1 vw (W).length (cells encI (W))) (hr : Rd w0 1 vr (R).length (cells encI (R))) (hW : W.length ≤ 100000) (hR : R.length ≤ 100000) :
    Fn Try.prog 6 #[.agg #[vw, vr, .bool b]] w0 (fun v w' => ∃ v1 v2, v = .tuple #[.agg #[v1, v2, .bool (begF W R b).2.2.1], .bool (begF W R b).2.2.2] ∧ Sat w0 w' [.row 3 1 v1 ((begF W R b).1).length (cells encI ((begF W R b).1)), .row 3 1 v2 ((begF W R b).2.1).length (cells encI ((begF W R b).2.1))]) := by
  obtain ⟨Avw, cvw, rfl⟩ := Rd.form hw
  obtain ⟨Avr, cvr, rfl⟩ := Rd.form hr
  refine c_enter (N := 21) (l := [_]) Try.func6 rfl rfl (fun a w hF hS => ?_)
  replace hS := hS.addRo hr
  replace hS := hS.addRo hw
  refine c_seq ?_
  refine c_region ?_
  refine seq_wp (wn_none rfl) (wp_box (cs := #[_, _, _]) hF hS rfl rfl rfl rfl rfl ?_)
  clear hF hS; intro a w g32 hF hS
  refine seq_wp (wn_none rfl) (wp_alloc (cs := #[_, _, _]) hF hS rfl rfl rfl zr24 rfl ?_)
  clear hF hS; intro a w g33 hF hS
  refine seq_yl hF (wn_none rfl) rfl rfl (yl_assign hF rfl rfl) ?_
  clear hF; intro a hF
  refine wpList_nil ?_
  refine then_n ?_
  refine c_seq ?_
  refine c_region ?_
  refine seq_yl hF (wn_none rfl) rfl rfl (yl_loadK (rs := [_, _, _]) (fun _ h => h ▸ hS) hF rfl rfl 1 rfl ag24 sz24 rfl rfl) ?_
  clear hF; intro a hF
  refine seq_wp (wn_none rfl) (wp_call (vs := [_]) hF rfl rfl rfl rfl cf18 (copied_any _ _ _ _ _ _ (hS.rdRo 2 rfl) (hS.rdRo 3 rfl) (by first | omega | decide | (simp only [List.length_append, List.length_cons, List.length_nil]; omega)) (by first | omega | decide | (simp only [List.length_append, List.length_cons, List.length_nil]; omega))) ?_)
  clear hF; rintro _ w ⟨v34, v35, rfl, hS1⟩ a hF
  replace hS := hS.callB hS1 rfl; clear hS1
  obtain ⟨Av34, cv34, rfl⟩ := hS.form 0 rfl
  obtain ⟨Av35, cv35, rfl⟩ := hS.form 1 rfl
  refine seq_wp (wn_none rfl) (wp_store (cs' := #[_, _, _]) hF hS rfl rfl rfl rfl 3 rfl sz24 (by simp [Value.cells, Value.oneCell']) (by simp [Value.cells]) rfl ?_)
  clear hF hS; intro a w hF hS
  refine wpList_nil ?_
  refine then_n ?_
  refine c_seq ?_
  refine c_seq ?_
  refine c_region ?_
  refine seq_yl hF (wn_none rfl) rfl rfl (yl_fieldAddr hF rfl rfl (fun w => by kernel_rfl : ∀ w, (Instr.fieldAt 24 (.pointer (some ⟨g32, 0, none⟩)) 2).run Try.prog w = .ok (.pointer (some ⟨g32, 2, none⟩)) w)) ?_
  clear hF; intro a hF
  refine seq_yl hF (wn_none rfl) rfl rfl (yl_load (fun _ h => h ▸ hS) hF rfl rfl 3 rfl ag4 rfl) ?_
  clear hF; intro a hF
  refine seq_yl hF (wn_none rfl) rfl rfl (yl_move hF rfl rfl) ?_
  clear hF; intro a hF
  refine fr_split hF (fun hc36 hF => ?_) (fun hc36 hF => ?_)
  · first | (replace hc36 := of_decide_eq_true hc36) | (subst hc36) | (replace hc36 := bnot_t hc36; subst hc36) | skip
    refine seq_skip hF (wn_f hF rfl rfl rfl rfl) rfl rfl ?_
    clear hF; intro a hF
    refine seq_skip hF (wn_f hF rfl rfl rfl rfl) rfl rfl ?_
    clear hF; intro a hF
    refine seq_skip hF (wn_f hF rfl rfl rfl rfl) rfl rfl ?_
    clear hF; intro a hF
    refine seq_skip hF (wn_f hF rfl rfl rfl rfl) rfl rfl ?_
    clear hF; intro a hF
    refine seq_yl hF (wn_none rfl) rfl rfl (yl_pick (u := _) (v := undef) hF rfl rfl (fun _ => rfl) (fun h => by cases h)) ?_
    clear hF; intro a hF
    refine wpList_nil ?_
    refine then_n ?_
    refine c_cond_t hF rfl ?_
    refine c_seq ?_
    refine c_region ?_
    refine seq_yl hF (wn_none rfl) rfl rfl (yl_loadK (rs := [_, _, _]) (fun _ h => h ▸ hS) hF rfl rfl 3 rfl ag24 sz24 rfl rfl) ?_
    clear hF; intro a hF
    refine seq_wp (wn_none rfl) (wp_store (cs' := #[_, _, _]) hF hS rfl rfl rfl rfl 2 rfl sz24 (by simp [Value.cells, Value.oneCell']) (by simp [Value.cells]) rfl ?_)
    clear hF hS; intro a w hF hS
    refine seq_yl hF (wn_none rfl) rfl rfl (yl_assign hF rfl rfl) ?_
    clear hF; intro a hF
    refine wpList_nil ?_
    refine then_n ?_
    refine wp_ret ?_
    refine then_r ?_
    refine ret_ct hF rfl (resC hS rfl 2 rfl ag24 sz24) rfl ?_
    first | rw [begF_t] | rw [begF_n W R _ (by assumption)] | rw [begF_g W R (by assumption)]
    exact ⟨_, rfl, _, _, rfl, (hS.sub [0, 1] (by decide) rfl (by simp))⟩
  · first | (replace hc36 := of_decide_eq_false hc36) | (subst hc36) | (replace hc36 := bnot_f hc36; subst hc36) | skip
    refine seq_yl hF (wn_t hF rfl rfl rfl rfl) rfl rfl (yl_fieldAddr hF rfl rfl (fun w => by kernel_rfl : ∀ w, (Instr.fieldAt 24 (.pointer (some ⟨g32, 0, none⟩)) 0).run Try.prog w = .ok (.pointer (some ⟨g32, 0, none⟩)) w)) ?_
    clear hF; intro a hF
    refine seq_yl hF (wn_t hF rfl rfl rfl rfl) rfl rfl (yl_load (fun _ h => h ▸ hS) hF rfl rfl 3 rfl ag22 rfl) ?_
    clear hF; intro a hF
    refine seq_yl hF (wn_t hF rfl rfl rfl rfl) rfl rfl (yl_len hF rfl rfl (fun _ => run_lenRd sl22 (hS.rdRow 0 rfl))) ?_
    clear hF; intro a hF
    refine seq_yl hF (wn_t hF rfl rfl rfl rfl) rfl rfl (yl_bin hF rfl rfl rfl rfl (fun _ => run_eql)) ?_
    clear hF; intro a hF
    refine seq_yl hF (wn_none rfl) rfl rfl (yl_pick (u := _) (v := undef) hF rfl rfl (fun h => by cases h) (fun _ => rfl)) ?_
    clear hF; intro a hF
    refine wpList_nil ?_
    refine then_n ?_
    refine c_cond hF rfl (fun hc37 => ?_) (fun hc37 => ?_)
    · first | (replace hc37 := of_decide_eq_true hc37) | (subst hc37) | (replace hc37 := bnot_t hc37; subst hc37) | skip
      refine c_seq ?_
      refine c_region ?_
      refine seq_yl hF (wn_none rfl) rfl rfl (yl_loadK (rs := [_, _, _]) (fun _ h => h ▸ hS) hF rfl rfl 3 rfl ag24 sz24 rfl rfl) ?_
      clear hF; intro a hF
      refine seq_wp (wn_none rfl) (wp_store (cs' := #[_, _, _]) hF hS rfl rfl rfl rfl 2 rfl sz24 (by simp [Value.cells, Value.oneCell']) (by simp [Value.cells]) rfl ?_)
      clear hF hS; intro a w hF hS
      refine seq_yl hF (wn_none rfl) rfl rfl (yl_assign hF rfl rfl) ?_
      clear hF; intro a hF
      refine wpList_nil ?_
      refine then_n ?_
      refine wp_ret ?_
      refine then_r ?_
      refine ret_ct hF rfl (resC hS rfl 2 rfl ag24 sz24) rfl ?_
      first | rw [begF_t] | rw [begF_n W R _ (by assumption)] | rw [begF_g W R (by assumption)]
      exact ⟨_, rfl, _, _, rfl, (hS.sub [0, 1] (by decide) rfl (by simp))⟩
    · first | (replace hc37 := of_decide_eq_false hc37) | (subst hc37) | (replace hc37 := bnot_f hc37; subst hc37) | skip
      refine wp_skip ?_
      refine then_n ?_
      refine c_seq ?_
      refine c_region ?_
      refine seq_yl hF (wn_none rfl) rfl rfl (yl_fieldAddr hF rfl rfl (fun w => by kernel_rfl : ∀ w, (Instr.fieldAt 24 (.pointer (some ⟨g32, 0, none⟩)) 1).run Try.prog w = .ok (.pointer (some ⟨g32, 1, none⟩)) w)) ?_
      clear hF; intro a hF
      refine seq_yl hF (wn_none rfl) rfl rfl (yl_load (fun _ h => h ▸ hS) hF rfl rfl 3 rfl ag22 rfl) ?_
      clear hF; intro a hF
      refine seq_yl hF (wn_none rfl) rfl rfl (yl_fieldAddr hF rfl rfl (fun w => by kernel_rfl : ∀ w, (Instr.fieldAt 24 (.pointer (some ⟨g32, 0, none⟩)) 0).run Try.prog w = .ok (.pointer (some ⟨g32, 0, none⟩)) w)) ?_
      clear hF; intro a hF
      refine seq_yl hF (wn_none rfl) rfl rfl (yl_load (fun _ h => h ▸ hS) hF rfl rfl 3 rfl ag22 rfl) ?_
      clear hF; intro a hF
      refine seq_wp (wn_none rfl) (wp_app (enc := encI) hF hS rfl rfl rfl rfl rfl 1 rfl sl22 inf3 rfl (by decide) (hS.rdRow 0 rfl) encI_one (by decide) (by first | omega | (simp only [List.length_append, List.length_cons, List.length_nil]; omega)) ?_)
      clear hF hS; intro a w v38 hF hS
      obtain ⟨Av38, cv38, rfl⟩ := hS.form 1 rfl
      refine seq_yl hF (wn_none rfl) rfl rfl (yl_build (parts := [(1, .tmp 19), (2, .const (Go.Value.bool true))]) (vs := [(1, _), (2, _)]) (cs := [_, _, _]) hF bd24 rfl rfl rfl rfl) ?_
      clear hF; intro a hF
      refine seq_wp (wn_none rfl) (wp_store (cs' := #[_, _, _]) hF hS rfl rfl rfl rfl 2 rfl sz24 (by simp [Value.cells, Value.oneCell']) (by simp [Value.cells]) rfl ?_)
      clear hF hS; intro a w hF hS
      refine seq_yl hF (wn_none rfl) rfl rfl (yl_assign hF rfl rfl) ?_
      clear hF; intro a hF
      refine wpList_nil ?_
      refine then_n ?_
      refine wp_ret ?_
      refine ret_ct hF rfl (resC hS rfl 2 rfl ag24 sz24) rfl ?_
      first | rw [begF_t] | rw [begF_n W R _ (by assumption)] | rw [begF_g W R (by assumption)]
      replace hS := hS.addNil 3 1
      exact ⟨_, rfl, _, _, rfl, (hS.sub [0, 2] (by decide) rfl (by simp))⟩

theorem begin2_any (vw vr : Value) (W R : List Int) (b : Bool) (w0 : World) (hw : Rd w0 1 vw (W).length (cells encI (W))) (hr : Rd w0 1 vr (R).length (cells encI (R))) (hW : W.length ≤ 100000) (hR : R.length ≤ 100000) :
    Fn Try.prog 7 #[.agg #[vw, vr, .bool b]] w0 (fun v w' => ∃ v1 v2, v = .tuple #[.agg #[v1, v2, .bool (begF W R b).2.2.1], .bool (begF W R b).2.2.2] ∧ Sat w0 w' [.row 3 1 v1 ((begF W R b).1).length (cells encI ((begF W R b).1)), .row 3 1 v2 ((begF W R b).2.1).length (cells encI ((begF W R b).2.1))]) := by
  obtain ⟨Avw, cvw, rfl⟩ := Rd.form hw
  obtain ⟨Avr, cvr, rfl⟩ := Rd.form hr
  refine c_enter (N := 28) (l := [_]) Try.func7 rfl rfl (fun a w hF hS => ?_)
  replace hS := hS.addRo hr
  replace hS := hS.addRo hw
  refine c_seq ?_
  refine c_region ?_
  refine seq_wp (wn_none rfl) (wp_box (cs := #[_, _, _]) hF hS rfl rfl rfl rfl rfl ?_)
  clear hF hS; intro a w g40 hF hS
  refine seq_wp (wn_none rfl) (wp_alloc (cs := #[_, _, _]) hF hS rfl rfl rfl zr24 rfl ?_)
  clear hF hS; intro a w g41 hF hS
  refine seq_yl hF (wn_none rfl) rfl rfl (yl_assign hF rfl rfl) ?_
  clear hF; intro a hF
  refine wpList_nil ?_
  refine then_n ?_
  refine c_seq ?_
  refine ha_startS hS [1] 8 (by kernel_rfl) ?_; clear hS; intro w hS
  have hSS := hS.sub [1] (by decide) rfl (by simp)
  refine ha_yl 0 hF rfl rfl rfl (by kernel_rfl) (by kernel_rfl) (by kernel_rfl) (by decide) (fun _ _ _ h => h) (wn_none rfl) (.inr hSS) (yl_fieldAddr hF rfl rfl (fun w => by kernel_rfl : ∀ w, (Instr.fieldAt 24 (.pointer (some ⟨g40, 0, none⟩)) 0).run Try.prog w = .ok (.pointer (some ⟨g40, 0, none⟩)) w)) ?_
  clear hF; intro a hF
  refine ha_yl 3 hF rfl rfl rfl (by kernel_rfl) (by kernel_rfl) (by kernel_rfl) (by decide) (fun _ _ _ h => h) (wn_none rfl) (.inr hSS) (yl_fieldAddr hF rfl rfl (fun w => by kernel_rfl : ∀ w, (Instr.fieldAt 24 (.pointer (some ⟨g40, 0, none⟩)) 1).run Try.prog w = .ok (.pointer (some ⟨g40, 1, none⟩)) w)) ?_
  clear hF; intro a hF
  refine ha_ld 1 hF rfl rfl rfl (by kernel_rfl) (by kernel_rfl) (by kernel_rfl) (by decide) (by kernel_rfl) (by kernel_rfl) (fun _ _ _ h => h) (wn_none rfl) hSS (yl_load (fun _ h => h) hF rfl rfl 0 rfl ag22 rfl) ?_
  clear hF; intro a hF
  refine ha_ld 4 hF rfl rfl rfl (by kernel_rfl) (by kernel_rfl) (by kernel_rfl) (by decide) (by kernel_rfl) (by kernel_rfl) (fun _ _ _ h => h) (wn_none rfl) hSS (yl_load (fun _ h => h) hF rfl rfl 0 rfl ag22 rfl) ?_
  clear hF; intro a hF
  refine ha_one 2 (by kernel_rfl) rfl (wn_none rfl) (wp_app0 (enc := encI) hF hS rfl rfl rfl rfl rfl sl22 inf3 rfl (by decide) (hS.rdRo 2 rfl) encI_one (by decide) (by first | omega | (simp only [List.length_append, List.length_cons, List.length_nil]; omega)) ?_)
  clear hF hS; intro a w v42 hF hS
  obtain ⟨Av42, cv42, rfl⟩ := hS.form 0 rfl
  replace hSS := hS.sub [2] (by decide) rfl (by simp)
  refine ⟨.inr hSS, ?_⟩
  refine ha_one 5 (by kernel_rfl) rfl (wn_none rfl) (wp_app0 (enc := encI) hF hS rfl rfl rfl rfl rfl sl22 inf3 rfl (by decide) (hS.rdRo 4 rfl) encI_one (by decide) (by first | omega | (simp only [List.length_append, List.length_cons, List.length_nil]; omega)) ?_)
  clear hF hS; intro a w v43 hF hS
  obtain ⟨Av43, cv43, rfl⟩ := hS.form 0 rfl
  replace hSS := hS.sub [3] (by decide) rfl (by simp)
  refine ⟨.inr hSS, ?_⟩
  refine ha_yl 6 hF rfl rfl rfl (by kernel_rfl) (by kernel_rfl) (by kernel_rfl) (by decide) (fun _ _ _ h => h) (wn_none rfl) (.inr hSS) (yl_assign hF rfl rfl) ?_
  clear hF; intro a hF
  refine ha_yl 7 hF rfl rfl rfl (by kernel_rfl) (by kernel_rfl) (by kernel_rfl) (by decide) (fun _ _ _ h => h) (wn_none rfl) (.inr hSS) (yl_assign hF rfl rfl) ?_
  clear hF; intro a hF
  refine ha_done (by kernel_rfl) ?_ _
  refine then_n ?_
  refine c_seq ?_
  refine c_seq ?_
  refine c_region ?_
  refine seq_yl hF (wn_none rfl) rfl rfl (yl_fieldAddr hF rfl rfl (fun w => by kernel_rfl : ∀ w, (Instr.fieldAt 24 (.pointer (some ⟨g40, 0, none⟩)) 2).run Try.prog w = .ok (.pointer (some ⟨g40, 2, none⟩)) w)) ?_
  clear hF; intro a hF
  refine seq_yl hF (wn_none rfl) rfl rfl (yl_load (fun _ h => h ▸ hS) hF rfl rfl 3 rfl ag4 rfl) ?_
  clear hF; intro a hF
  refine seq_yl hF (wn_none rfl) rfl rfl (yl_move hF rfl rfl) ?_
  clear hF; intro a hF
  refine fr_split hF (fun hc44 hF => ?_) (fun hc44 hF => ?_)
  · first | (replace hc44 := of_decide_eq_true hc44) | (subst hc44) | (replace hc44 := bnot_t hc44; subst hc44) | skip
    refine seq_skip hF (wn_f hF rfl rfl rfl rfl) rfl rfl ?_
    clear hF; intro a hF
    refine seq_skip hF (wn_f hF rfl rfl rfl rfl) rfl rfl ?_
    clear hF; intro a hF
    refine seq_skip hF (wn_f hF rfl rfl rfl rfl) rfl rfl ?_
    clear hF; intro a hF
    refine seq_yl hF (wn_none rfl) rfl rfl (yl_pick (u := _) (v := undef) hF rfl rfl (fun _ => rfl) (fun h => by cases h)) ?_
    clear hF; intro a hF
    refine wpList_nil ?_
    refine then_n ?_
    refine c_cond_t hF rfl ?_
    refine c_seq ?_
    refine c_region ?_
    refine seq_yl hF (wn_none rfl) rfl rfl (yl_move hF rfl rfl) ?_
    clear hF; intro a hF
    refine seq_yl hF (wn_none rfl) rfl rfl (yl_move hF rfl rfl) ?_
    clear hF; intro a hF
    refine seq_yl hF (wn_none rfl) rfl rfl (yl_fieldAddr hF rfl rfl (fun w => by kernel_rfl : ∀ w, (Instr.fieldAt 24 (.pointer (some ⟨g40, 0, none⟩)) 2).run Try.prog w = .ok (.pointer (some ⟨g40, 2, none⟩)) w)) ?_
    clear hF; intro a hF
    refine seq_yl hF (wn_none rfl) rfl rfl (yl_load (fun _ h => h ▸ hS) hF rfl rfl 3 rfl ag4 rfl) ?_
    clear hF; intro a hF
    refine seq_yl hF (wn_none rfl) rfl rfl (yl_build (parts := [(0, .tmp 19), (1, .tmp 20), (2, .tmp 22)]) (vs := [(0, _), (1, _), (2, _)]) (cs := [_, _, _]) hF bd24 rfl rfl rfl rfl) ?_
    clear hF; intro a hF
    refine seq_wp (wn_none rfl) (wp_store (cs' := #[_, _, _]) hF hS rfl rfl rfl rfl 2 rfl sz24 (by simp [Value.cells, Value.oneCell']) (by simp [Value.cells]) rfl ?_)
    clear hF hS; intro a w hF hS
    refine seq_yl hF (wn_none rfl) rfl rfl (yl_assign hF rfl rfl) ?_
    clear hF; intro a hF
    refine wpList_nil ?_
    refine then_n ?_
    refine wp_ret ?_
    refine then_r ?_
    refine ret_ct hF rfl (resC hS rfl 2 rfl ag24 sz24) rfl ?_
    first | rw [begF_t] | rw [begF_n W R _ (by assumption)] | rw [begF_g W R (by assumption)]
    exact ⟨_, rfl, _, _, rfl, (hS.sub [1, 0] (by decide) rfl (by simp))⟩
  · first | (replace hc44 := of_decide_eq_false hc44) | (subst hc44) | (replace hc44 := bnot_f hc44; subst hc44) | skip
    refine seq_yl hF (wn_t hF rfl rfl rfl rfl) rfl rfl (yl_move hF rfl rfl) ?_
    clear hF; intro a hF
    refine seq_yl hF (wn_t hF rfl rfl rfl rfl) rfl rfl (yl_len hF rfl rfl (fun _ => run_lenRd sl22 (hS.rdRow 1 rfl))) ?_
    clear hF; intro a hF
    refine seq_yl hF (wn_t hF rfl rfl rfl rfl) rfl rfl (yl_bin hF rfl rfl rfl rfl (fun _ => run_eql)) ?_
    clear hF; intro a hF
    refine seq_yl hF (wn_none rfl) rfl rfl (yl_pick (u := _) (v := undef) hF rfl rfl (fun h => by cases h) (fun _ => rfl)) ?_
    clear hF; intro a hF
    refine wpList_nil ?_
    refine then_n ?_
    refine c_cond hF rfl (fun hc45 => ?_) (fun hc45 => ?_)
    · first | (replace hc45 := of_decide_eq_true hc45) | (subst hc45) | (replace hc45 := bnot_t hc45; subst hc45) | skip
      refine c_seq ?_
      refine c_region ?_
      refine seq_yl hF (wn_none rfl) rfl rfl (yl_move hF rfl rfl) ?_
      clear hF; intro a hF
      refine seq_yl hF (wn_none rfl) rfl rfl (yl_move hF rfl rfl) ?_
      clear hF; intro a hF
      refine seq_yl hF (wn_none rfl) rfl rfl (yl_fieldAddr hF rfl rfl (fun w => by kernel_rfl : ∀ w, (Instr.fieldAt 24 (.pointer (some ⟨g40, 0, none⟩)) 2).run Try.prog w = .ok (.pointer (some ⟨g40, 2, none⟩)) w)) ?_
      clear hF; intro a hF
      refine seq_yl hF (wn_none rfl) rfl rfl (yl_load (fun _ h => h ▸ hS) hF rfl rfl 3 rfl ag4 rfl) ?_
      clear hF; intro a hF
      refine seq_yl hF (wn_none rfl) rfl rfl (yl_build (parts := [(0, .tmp 19), (1, .tmp 20), (2, .tmp 22)]) (vs := [(0, _), (1, _), (2, _)]) (cs := [_, _, _]) hF bd24 rfl rfl rfl rfl) ?_
      clear hF; intro a hF
      refine seq_wp (wn_none rfl) (wp_store (cs' := #[_, _, _]) hF hS rfl rfl rfl rfl 2 rfl sz24 (by simp [Value.cells, Value.oneCell']) (by simp [Value.cells]) rfl ?_)
      clear hF hS; intro a w hF hS
      refine seq_yl hF (wn_none rfl) rfl rfl (yl_assign hF rfl rfl) ?_
      clear hF; intro a hF
      refine wpList_nil ?_
      refine then_n ?_
      refine wp_ret ?_
      refine then_r ?_
      refine ret_ct hF rfl (resC hS rfl 2 rfl ag24 sz24) rfl ?_
      first | rw [begF_t] | rw [begF_n W R _ (by assumption)] | rw [begF_g W R (by assumption)]
      exact ⟨_, rfl, _, _, rfl, (hS.sub [1, 0] (by decide) rfl (by simp))⟩
    · first | (replace hc45 := of_decide_eq_false hc45) | (subst hc45) | (replace hc45 := bnot_f hc45; subst hc45) | skip
      refine wp_skip ?_
      refine then_n ?_
      refine c_seq ?_
      refine c_region ?_
      refine seq_yl hF (wn_none rfl) rfl rfl (yl_move hF rfl rfl) ?_
      clear hF; intro a hF
      refine seq_yl hF (wn_none rfl) rfl rfl (yl_move hF rfl rfl) ?_
      clear hF; intro a hF
      refine seq_wp (wn_none rfl) (wp_app (enc := encI) hF hS rfl rfl rfl rfl rfl 0 rfl sl22 inf3 rfl (by decide) (hS.rdRow 1 rfl) encI_one (by decide) (by first | omega | (simp only [List.length_append, List.length_cons, List.length_nil]; omega)) ?_)
      clear hF hS; intro a w v46 hF hS
      obtain ⟨Av46, cv46, rfl⟩ := hS.form 0 rfl
      refine seq_yl hF (wn_none rfl) rfl rfl (yl_build (parts := [(1, .tmp 26), (2, .const (Go.Value.bool true))]) (vs := [(1, _), (2, _)]) (cs := [_, _, _]) hF bd24 rfl rfl rfl rfl) ?_
      clear hF; intro a hF
      refine seq_wp (wn_none rfl) (wp_store (cs' := #[_, _, _]) hF hS rfl rfl rfl rfl 2 rfl sz24 (by simp [Value.cells, Value.oneCell']) (by simp [Value.cells]) rfl ?_)
      clear hF hS; intro a w hF hS
      refine seq_yl hF (wn_none rfl) rfl rfl (yl_assign hF rfl rfl) ?_
      clear hF; intro a hF
      refine wpList_nil ?_
      refine then_n ?_
      refine wp_ret ?_
      refine ret_ct hF rfl (resC hS rfl 2 rfl ag24 sz24) rfl ?_
      first | rw [begF_t] | rw [begF_n W R _ (by assumption)] | rw [begF_g W R (by assumption)]
      replace hS := hS.addNil 3 1
      exact ⟨_, rfl, _, _, rfl, (hS.sub [0, 1] (by decide) rfl (by simp))⟩

theorem end_any (vw vr : Value) (W R : List Int) (b : Bool) (w0 : World) (hw : Rd w0 1 vw (W).length (cells encI (W))) (hr : Rd w0 1 vr (R).length (cells encI (R))) (hW : W.length ≤ 100000) (hR : R.length ≤ 100000) :
    Fn Try.prog 8 #[.agg #[vw, vr, .bool b]] w0 (fun v w' => ∃ v1 v2 v3, v = .tuple #[.agg #[v1, v2, .bool false], v3] ∧ Sat w0 w' [.row 3 1 v1 ((endF W R b).1).length (cells encI ((endF W R b).1)), .row 3 1 v2 ((endF W R b).2.1).length (cells encI ((endF W R b).2.1)), .row 3 1 v3 ((endF W R b).2.2).length (cells encI ((endF W R b).2.2))]) := by
  obtain ⟨Avw, cvw, rfl⟩ := Rd.form hw
  obtain ⟨Avr, cvr, rfl⟩ := Rd.form hr
  refine c_enter (N := 15) (l := [_]) Try.func8 rfl rfl (fun a w hF hS => ?_)
  replace hS := hS.addRo hr
  replace hS := hS.addRo hw
  refine c_seq ?_
  refine c_region ?_
  refine seq_wp (wn_none rfl) (wp_box (cs := #[_, _, _]) hF hS rfl rfl rfl rfl rfl ?_)
  clear hF hS; intro a w g48 hF hS
  refine seq_wp (wn_none rfl) (wp_alloc (cs := #[_, _, _]) hF hS rfl rfl rfl zr24 rfl ?_)
  clear hF hS; intro a w g49 hF hS
  refine seq_yl hF (wn_none rfl) rfl rfl (yl_assign hF rfl rfl) ?_
  clear hF; intro a hF
  refine wpList_nil ?_
  refine then_n ?_
  refine c_seq ?_
  refine c_region ?_
  refine seq_yl hF (wn_none rfl) rfl rfl (yl_loadK (rs := [_, _, _]) (fun _ h => h ▸ hS) hF rfl rfl 1 rfl ag24 sz24 rfl rfl) ?_
  clear hF; intro a hF
  refine seq_wp (wn_none rfl) (wp_call (vs := [_]) hF rfl rfl rfl rfl cf18 (copied_any _ _ _ _ _ _ (hS.rdRo 2 rfl) (hS.rdRo 3 rfl) (by first | omega | decide | (simp only [List.length_append, List.length_cons, List.length_nil]; omega)) (by first | omega | decide | (simp only [List.length_append, List.length_cons, List.length_nil]; omega))) ?_)
  clear hF; rintro _ w ⟨v50, v51, rfl, hS1⟩ a hF
  replace hS := hS.callB hS1 rfl; clear hS1
  obtain ⟨Av50, cv50, rfl⟩ := hS.form 0 rfl
  obtain ⟨Av51, cv51, rfl⟩ := hS.form 1 rfl
  refine seq_wp (wn_none rfl) (wp_store (cs' := #[_, _, _]) hF hS rfl rfl rfl rfl 3 rfl sz24 (by simp [Value.cells, Value.oneCell']) (by simp [Value.cells]) rfl ?_)
  clear hF hS; intro a w hF hS
  refine wpList_nil ?_
  refine then_n ?_
  refine c_seq ?_
  refine c_seq ?_
  refine c_region ?_
  refine seq_yl hF (wn_none rfl) rfl rfl (yl_fieldAddr hF rfl rfl (fun w => by kernel_rfl : ∀ w, (Instr.fieldAt 24 (.pointer (some ⟨g48, 0, none⟩)) 2).run Try.prog w = .ok (.pointer (some ⟨g48, 2, none⟩)) w)) ?_
  clear hF; intro a hF
  refine seq_yl hF (wn_none rfl) rfl rfl (yl_load (fun _ h => h ▸ hS) hF rfl rfl 3 rfl ag4 rfl) ?_
  clear hF; intro a hF
  refine seq_yl hF (wn_none rfl) rfl rfl (yl_un hF rfl rfl (fun _ => run_not)) ?_
  clear hF; intro a hF
  refine wpList_nil ?_
  refine then_n ?_
  refine c_cond hF rfl (fun hc52 => ?_) (fun hc52 => ?_)
  · first | (replace hc52 := of_decide_eq_true hc52) | (subst hc52) | (replace hc52 := bnot_t hc52; subst hc52) | skip
    refine c_seq ?_
    refine c_region ?_
    refine seq_yl hF (wn_none rfl) rfl rfl (yl_loadK (rs := [_, _, _]) (fun _ h => h ▸ hS) hF rfl rfl 3 rfl ag24 sz24 rfl rfl) ?_
    clear hF; intro a hF
    refine seq_wp (wn_none rfl) (wp_store (cs' := #[_, _, _]) hF hS rfl rfl rfl rfl 2 rfl sz24 (by simp [Value.cells, Value.oneCell']) (by simp [Value.cells]) rfl ?_)
    clear hF hS; intro a w hF hS
    refine seq_yl hF (wn_none rfl) rfl rfl (yl_assign hF rfl rfl) ?_
    clear hF; intro a hF
    refine wpList_nil ?_
    refine then_n ?_
    refine wp_ret ?_
    refine then_r ?_
    refine ret_ct hF rfl (resC hS rfl 2 rfl ag24 sz24) rfl ?_
    first | rw [endF_t] | rw [endF_f]
    replace hS := hS.addNil 3 1
    exact ⟨_, rfl, _, _, _, rfl, (hS.sub [1, 2, 0] (by decide) rfl (by simp))⟩
  · first | (replace hc52 := of_decide_eq_false hc52) | (subst hc52) | (replace hc52 := bnot_f hc52; subst hc52) | skip
    refine wp_skip ?_
    refine then_n ?_
    refine c_seq ?_
    refine ha_startS hS [3] 7 (by kernel_rfl) ?_; clear hS; intro w hS
    have hSS := hS.sub [3] (by decide) rfl (by simp)
    refine ha_yl 0 hF rfl rfl rfl (by kernel_rfl) (by kernel_rfl) (by kernel_rfl) (by decide) (fun _ _ _ h => h) (wn_none rfl) (.inr hSS) (yl_fieldAddr hF rfl rfl (fun w => by kernel_rfl : ∀ w, (Instr.fieldAt 24 (.pointer (some ⟨g48, 0, none⟩)) 0).run Try.prog w = .ok (.pointer (some ⟨g48, 0, none⟩)) w)) ?_
    clear hF; intro a hF
    refine ha_yl 3 hF rfl rfl rfl (by kernel_rfl) (by kernel_rfl) (by kernel_rfl) (by decide) (fun _ _ _ h => h) (wn_none rfl) (.inr hSS) (yl_fieldAddr hF rfl rfl (fun w => by kernel_rfl : ∀ w, (Instr.fieldAt 24 (.pointer (some ⟨g48, 0, none⟩)) 1).run Try.prog w = .ok (.pointer (some ⟨g48, 1, none⟩)) w)) ?_
    clear hF; intro a hF
    refine ha_ld 1 hF rfl rfl rfl (by kernel_rfl) (by kernel_rfl) (by kernel_rfl) (by decide) (by kernel_rfl) (by kernel_rfl) (fun _ _ _ h => h) (wn_none rfl) hSS (yl_load (fun _ h => h) hF rfl rfl 0 rfl ag22 rfl) ?_
    clear hF; intro a hF
    refine ha_yl 2 hF rfl rfl rfl (by kernel_rfl) (by kernel_rfl) (by kernel_rfl) (by decide) (fun _ _ _ h => h) (wn_none rfl) (.inr hSS) (yl_build (parts := [(0, .tmp 11)]) (vs := [(0, _)]) (cs := [_, _, _]) hF bd24 rfl rfl rfl rfl) ?_
    clear hF; intro a hF
    refine ha_ld 4 hF rfl rfl rfl (by kernel_rfl) (by kernel_rfl) (by kernel_rfl) (by decide) (by kernel_rfl) (by kernel_rfl) (fun _ _ _ h => h) (wn_none rfl) hSS (yl_load (fun _ h => h) hF rfl rfl 0 rfl ag22 rfl) ?_
    clear hF; intro a hF
    refine ha_one 5 (by kernel_rfl) rfl (wn_none rfl) (wp_store (cs' := #[_, _, _]) hF hS rfl rfl rfl rfl 2 rfl sz24 (by simp [Value.cells, Value.oneCell']) (by simp [Value.cells]) rfl ?_)
    clear hF hS; intro a w hF hS
    replace hSS := hS.sub [3] (by decide) rfl (by simp)
    refine ⟨.inr hSS, ?_⟩
    refine ha_yl 6 hF rfl rfl rfl (by kernel_rfl) (by kernel_rfl) (by kernel_rfl) (by decide) (fun _ _ _ h => h) (wn_none rfl) (.inr hSS) (yl_assign hF rfl rfl) ?_
    clear hF; intro a hF
    refine ha_done (by kernel_rfl) ?_ _
    refine then_n ?_
    refine wp_ret ?_
    refine ret_ct hF rfl (resC hS rfl 2 rfl ag24 sz24) rfl ?_
    first | rw [endF_t] | rw [endF_f]
    replace hS := hS.addNil 3 1
    exact ⟨_, rfl, _, _, _, rfl, (hS.sub [1, 0, 2] (by decide) rfl (by simp))⟩

theorem end2_any (vw vr : Value) (W R : List Int) (b : Bool) (w0 : World) (hw : Rd w0 1 vw (W).length (cells encI (W))) (hr : Rd w0 1 vr (R).length (cells encI (R))) (hW : W.length ≤ 100000) (hR : R.length ≤ 100000) :
    Fn Try.prog 9 #[.agg #[vw, vr, .bool b]] w0 (fun v w' => ∃ v1 v2 v3, v = .tuple #[.agg #[v1, v2, .bool false], v3] ∧ Sat w0 w' [.row 3 1 v1 ((endF W R b).1).length (cells encI ((endF W R b).1)), .row 3 1 v2 ((endF W R b).2.1).length (cells encI ((endF W R b).2.1)), .row 3 1 v3 ((endF W R b).2.2).length (cells encI ((endF W R b).2.2))]) := by
  obtain ⟨Avw, cvw, rfl⟩ := Rd.form hw
  obtain ⟨Avr, cvr, rfl⟩ := Rd.form hr
  refine c_enter (N := 21) (l := [_]) Try.func9 rfl rfl (fun a w hF hS => ?_)
  replace hS := hS.addRo hr
  replace hS := hS.addRo hw
  refine c_seq ?_
  refine c_region ?_
  refine seq_wp (wn_none rfl) (wp_box (cs := #[_, _, _]) hF hS rfl rfl rfl rfl rfl ?_)
  clear hF hS; intro a w g55 hF hS
  refine seq_wp (wn_none rfl) (wp_alloc (cs := #[_, _, _]) hF hS rfl rfl rfl zr24 rfl ?_)
  clear hF hS; intro a w g56 hF hS
  refine seq_yl hF (wn_none rfl) rfl rfl (yl_assign hF rfl rfl) ?_
  clear hF; intro a hF
  refine wpList_nil ?_
  refine then_n ?_
  refine c_seq ?_
  refine ha_startS hS [1] 8 (by kernel_rfl) ?_; clear hS; intro w hS
  have hSS := hS.sub [1] (by decide) rfl (by simp)
  refine ha_yl 0 hF rfl rfl rfl (by kernel_rfl) (by kernel_rfl) (by kernel_rfl) (by decide) (fun _ _ _ h => h) (wn_none rfl) (.inr hSS) (yl_fieldAddr hF rfl rfl (fun w => by kernel_rfl : ∀ w, (Instr.fieldAt 24 (.pointer (some ⟨g55, 0, none⟩)) 0).run Try.prog w = .ok (.pointer (some ⟨g55, 0, none⟩)) w)) ?_
  clear hF; intro a hF
  refine ha_yl 3 hF rfl rfl rfl (by kernel_rfl) (by kernel_rfl) (by kernel_rfl) (by decide) (fun _ _ _ h => h) (wn_none rfl) (.inr hSS) (yl_fieldAddr hF rfl rfl (fun w => by kernel_rfl : ∀ w, (Instr.fieldAt 24 (.pointer (some ⟨g55, 0, none⟩)) 1).run Try.prog w = .ok (.pointer (some ⟨g55, 1, none⟩)) w)) ?_
  clear hF; intro a hF
  refine ha_ld 1 hF rfl rfl rfl (by kernel_rfl) (by kernel_rfl) (by kernel_rfl) (by decide) (by kernel_rfl) (by kernel_rfl) (fun _ _ _ h => h) (wn_none rfl) hSS (yl_load (fun _ h => h) hF rfl rfl 0 rfl ag22 rfl) ?_
  clear hF; intro a hF
  refine ha_ld 4 hF rfl rfl rfl (by kernel_rfl) (by kernel_rfl) (by kernel_rfl) (by decide) (by kernel_rfl) (by kernel_rfl) (fun _ _ _ h => h) (wn_none rfl) hSS (yl_load (fun _ h => h) hF rfl rfl 0 rfl ag22 rfl) ?_
  clear hF; intro a hF
  refine ha_one 2 (by kernel_rfl) rfl (wn_none rfl) (wp_app0 (enc := encI) hF hS rfl rfl rfl rfl rfl sl22 inf3 rfl (by decide) (hS.rdRo 2 rfl) encI_one (by decide) (by first | omega | (simp only [List.length_append, List.length_cons, List.length_nil]; omega)) ?_)
  clear hF hS; intro a w v57 hF hS
  obtain ⟨Av57, cv57, rfl⟩ := hS.form 0 rfl
  replace hSS := hS.sub [2] (by decide) rfl (by simp)
  refine ⟨.inr hSS, ?_⟩
  refine ha_one 5 (by kernel_rfl) rfl (wn_none rfl) (wp_app0 (enc := encI) hF hS rfl rfl rfl rfl rfl sl22 inf3 rfl (by decide) (hS.rdRo 4 rfl) encI_one (by decide) (by first | omega | (simp only [List.length_append, List.length_cons, List.length_nil]; omega)) ?_)
  clear hF hS; intro a w v58 hF hS
  obtain ⟨Av58, cv58, rfl⟩ := hS.form 0 rfl
  replace hSS := hS.sub [3] (by decide) rfl (by simp)
  refine ⟨.inr hSS, ?_⟩
  refine ha_yl 6 hF rfl rfl rfl (by kernel_rfl) (by kernel_rfl) (by kernel_rfl) (by decide) (fun _ _ _ h => h) (wn_none rfl) (.inr hSS) (yl_assign hF rfl rfl) ?_
  clear hF; intro a hF
  refine ha_yl 7 hF rfl rfl rfl (by kernel_rfl) (by kernel_rfl) (by kernel_rfl) (by decide) (fun _ _ _ h => h) (wn_none rfl) (.inr hSS) (yl_assign hF rfl rfl) ?_
  clear hF; intro a hF
  refine ha_done (by kernel_rfl) ?_ _
  refine then_n ?_
  refine c_seq ?_
  refine c_seq ?_
  refine c_region ?_
  refine seq_yl hF (wn_none rfl) rfl rfl (yl_fieldAddr hF rfl rfl (fun w => by kernel_rfl : ∀ w, (Instr.fieldAt 24 (.pointer (some ⟨g55, 0, none⟩)) 2).run Try.prog w = .ok (.pointer (some ⟨g55, 2, none⟩)) w)) ?_
  clear hF; intro a hF
  refine seq_yl hF (wn_none rfl) rfl rfl (yl_load (fun _ h => h ▸ hS) hF rfl rfl 3 rfl ag4 rfl) ?_
  clear hF; intro a hF
  refine seq_yl hF (wn_none rfl) rfl rfl (yl_un hF rfl rfl (fun _ => run_not)) ?_
  clear hF; intro a hF
  refine wpList_nil ?_
  refine then_n ?_
  refine c_cond hF rfl (fun hc59 => ?_) (fun hc59 => ?_)
  · first | (replace hc59 := of_decide_eq_true hc59) | (subst hc59) | (replace hc59 := bnot_t hc59; subst hc59) | skip
    refine c_seq ?_
    refine c_region ?_
    refine seq_yl hF (wn_none rfl) rfl rfl (yl_move hF rfl rfl) ?_
    clear hF; intro a hF
    refine seq_yl hF (wn_none rfl) rfl rfl (yl_move hF rfl rfl) ?_
    clear hF; intro a hF
    refine seq_yl hF (wn_none rfl) rfl rfl (yl_build (parts := [(0, .tmp 15), (1, .tmp 16)]) (vs := [(0, _), (1, _)]) (cs := [_, _, _]) hF bd24 rfl rfl rfl rfl) ?_
    clear hF; intro a hF
    refine seq_wp (wn_none rfl) (wp_store (cs' := #[_, _, _]) hF hS rfl rfl rfl rfl 2 rfl sz24 (by simp [Value.cells, Value.oneCell']) (by simp [Value.cells]) rfl ?_)
    clear hF hS; intro a w hF hS
    refine seq_yl hF (wn_none rfl) rfl rfl (yl_assign hF rfl rfl) ?_
    clear hF; intro a hF
    refine wpList_nil ?_
    refine then_n ?_
    refine wp_ret ?_
    refine then_r ?_
    refine ret_ct hF rfl (resC hS rfl 2 rfl ag24 sz24) rfl ?_
    first | rw [endF_t] | rw [endF_f]
    replace hS := hS.addNil 3 1
    exact ⟨_, rfl, _, _, _, rfl, (hS.sub [2, 1, 0] (by decide) rfl (by simp))⟩
  · first | (replace hc59 := of_decide_eq_false hc59) | (subst hc59) | (replace hc59 := bnot_f hc59; subst hc59) | skip
    refine wp_skip ?_
    refine then_n ?_
    refine c_seq ?_
    refine c_region ?_
    refine seq_yl hF (wn_none rfl) rfl rfl (yl_move hF rfl rfl) ?_
    clear hF; intro a hF
    refine seq_yl hF (wn_none rfl) rfl rfl (yl_build (parts := [(0, .tmp 18)]) (vs := [(0, _)]) (cs := [_, _, _]) hF bd24 rfl rfl rfl rfl) ?_
    clear hF; intro a hF
    refine seq_yl hF (wn_none rfl) rfl rfl (yl_move hF rfl rfl) ?_
    clear hF; intro a hF
    refine seq_wp (wn_none rfl) (wp_store (cs' := #[_, _, _]) hF hS rfl rfl rfl rfl 2 rfl sz24 (by simp [Value.cells, Value.oneCell']) (by simp [Value.cells]) rfl ?_)
    clear hF hS; intro a w hF hS
    refine seq_yl hF (wn_none rfl) rfl rfl (yl_assign hF rfl rfl) ?_
    clear hF; intro a hF
    refine wpList_nil ?_
    refine then_n ?_
    refine wp_ret ?_
    refine ret_ct hF rfl (resC hS rfl 2 rfl ag24 sz24) rfl ?_
    first | rw [endF_t] | rw [endF_f]
    replace hS := hS.addNil 3 1
    exact ⟨_, rfl, _, _, _, rfl, (hS.sub [2, 0, 1] (by decide) rfl (by simp))⟩

theorem stages_any (q0 q1 q2 kind q4 q5 : Int) (q6 : ByteArray) (p fu : Bool) (q9 : Int) (fua : Bool) (w0 : World) :
    Fn Try.prog 11 #[.agg #[.int .i64 q0, .int .i64 q1, .int .i64 q2, .int .i64 kind, .int .i64 q4, .int .i64 q5, .string q6, .bool p, .bool fu, .int .i64 q9], .bool fua] w0 (fun v w' => ∃ v1, v = v1 ∧ Sat w0 w' [.row 3 1 v1 (stF kind p fu fua).length (cells encI (stF kind p fu fua))]) := by
  refine c_enter (N := 34) (l := [_, _]) Try.func11 rfl rfl (fun a w hF hS => ?_)
  refine c_seq ?_
  refine c_region ?_
  refine seq_wp (wn_none rfl) (wp_box (cs := #[_, _, _, _, _, _, _, _, _, _]) hF hS rfl rfl rfl rfl rfl ?_)
  clear hF hS; intro a w g62 hF hS
  refine seq_yl hF (wn_none rfl) rfl rfl (yl_assign hF rfl rfl) ?_
  clear hF; intro a hF
  refine wpList_nil ?_
  refine then_n ?_
  refine c_seq ?_
  refine c_seq ?_
  refine c_region ?_
  refine seq_yl hF (wn_none rfl) rfl rfl (yl_fieldAddr hF rfl rfl (fun w => by kernel_rfl : ∀ w, (Instr.fieldAt 26 (.pointer (some ⟨g62, 0, none⟩)) 3).run Try.prog w = .ok (.pointer (some ⟨g62, 3, none⟩)) w)) ?_
  clear hF; intro a hF
  refine seq_yl hF (wn_none rfl) rfl rfl (yl_load (fun _ h => h ▸ hS) hF rfl rfl 0 rfl ag3 rfl) ?_
  clear hF; intro a hF
  refine wpList_nil ?_
  refine then_n ?_
  refine wp_block ?_
  refine c_seq ?_
  refine c_region ?_
  refine seq_yl hF (wn_none rfl) rfl rfl (yl_bin hF rfl rfl rfl rfl (fun _ => run_eql)) ?_
  clear hF; intro a hF
  refine seq_yl hF (wn_none rfl) rfl rfl (yl_assign hF rfl rfl) ?_
  clear hF; intro a hF
  refine wpList_nil ?_
  refine then_n ?_
  refine c_cond hF rfl (fun hc63 => ?_) (fun hc63 => ?_)
  · first | (replace hc63 := of_decide_eq_true hc63) | (subst hc63) | (replace hc63 := bnot_t hc63; subst hc63) | skip
    refine c_seq ?_
    refine c_region ?_
    refine seq_wp (wn_none rfl) (wp_bslice (parts := [(0, .const (Go.Value.int Go.IntKind.i64 1))]) (vs := [(0, _)]) (enc := encI) (e := 3) (size := 1) (cs := #[.int .i64 (1)]) hF hS rfl rfl rfl rfl ([(1)] : List Int) (fun w => by kernel_rfl) rfl rfl rfl (by decide) ?_)
    clear hF hS; intro a w v64 hF hS
    obtain ⟨Av64, cv64, rfl⟩ := hS.form 0 rfl
    refine seq_yl hF (wn_none rfl) rfl rfl (yl_assign hF rfl rfl) ?_
    clear hF; intro a hF
    refine wpList_nil ?_
    refine then_n ?_
    refine wp_ret ?_
    refine inb_r ?_
    refine then_r ?_
    refine ret_t hF rfl rfl ?_
    first | rw [stF_3 (by omega)] | rw [stF_1 (by omega)] | rw [stF_w1 (by omega)] | rw [stF_wa (by omega)] | rw [stF_wb (by omega)] | rw [stF_o (by omega) (by omega) (by omega)]
    exact ⟨_, rfl, _, rfl, (hS.sub [0] (by decide) rfl (by simp))⟩
  · first | (replace hc63 := of_decide_eq_false hc63) | (subst hc63) | (replace hc63 := bnot_f hc63; subst hc63) | skip
    refine c_seq ?_
    refine c_region ?_
    refine seq_yl hF (wn_none rfl) rfl rfl (yl_bin hF rfl rfl rfl rfl (fun _ => run_eql)) ?_
    clear hF; intro a hF
    refine seq_yl hF (wn_none rfl) rfl rfl (yl_assign hF rfl rfl) ?_
    clear hF; intro a hF
    refine wpList_nil ?_
    refine then_n ?_
    refine c_cond hF rfl (fun hc65 => ?_) (fun hc65 => ?_)
    · first | (replace hc65 := of_decide_eq_true hc65) | (subst hc65) | (replace hc65 := bnot_t hc65; subst hc65) | skip
      refine c_seq ?_
      refine c_region ?_
      refine seq_wp (wn_none rfl) (wp_bslice (parts := [(0, .const (Go.Value.int Go.IntKind.i64 2))]) (vs := [(0, _)]) (enc := encI) (e := 3) (size := 1) (cs := #[.int .i64 (2)]) hF hS rfl rfl rfl rfl ([(2)] : List Int) (fun w => by kernel_rfl) rfl rfl rfl (by decide) ?_)
      clear hF hS; intro a w v66 hF hS
      obtain ⟨Av66, cv66, rfl⟩ := hS.form 0 rfl
      refine seq_yl hF (wn_none rfl) rfl rfl (yl_assign hF rfl rfl) ?_
      clear hF; intro a hF
      refine wpList_nil ?_
      refine then_n ?_
      refine wp_ret ?_
      refine inb_r ?_
      refine then_r ?_
      refine ret_t hF rfl rfl ?_
      first | rw [stF_3 (by omega)] | rw [stF_1 (by omega)] | rw [stF_w1 (by omega)] | rw [stF_wa (by omega)] | rw [stF_wb (by omega)] | rw [stF_o (by omega) (by omega) (by omega)]
      exact ⟨_, rfl, _, rfl, (hS.sub [0] (by decide) rfl (by simp))⟩
    · first | (replace hc65 := of_decide_eq_false hc65) | (subst hc65) | (replace hc65 := bnot_f hc65; subst hc65) | skip
      refine c_seq ?_
      refine c_region ?_
      refine seq_yl hF (wn_none rfl) rfl rfl (yl_bin hF rfl rfl rfl rfl (fun _ => run_eql)) ?_
      clear hF; intro a hF
      refine seq_yl hF (wn_none rfl) rfl rfl (yl_assign hF rfl rfl) ?_
      clear hF; intro a hF
      refine wpList_nil ?_
      refine then_n ?_
      refine c_cond hF rfl (fun hc67 => ?_) (fun hc67 => ?_)
      · first | (replace hc67 := of_decide_eq_true hc67) | (subst hc67) | (replace hc67 := bnot_t hc67; subst hc67) | skip
        refine c_seq ?_
        refine c_region ?_
        refine seq_yl hF (wn_none rfl) rfl rfl (yl_assign hF rfl rfl) ?_
        clear hF; intro a hF
        refine wpList_nil ?_
        refine then_n ?_
        refine c_seq ?_
        refine c_seq ?_
        refine c_region ?_
        refine seq_yl hF (wn_none rfl) rfl rfl (yl_fieldAddr hF rfl rfl (fun w => by kernel_rfl : ∀ w, (Instr.fieldAt 26 (.pointer (some ⟨g62, 0, none⟩)) 7).run Try.prog w = .ok (.pointer (some ⟨g62, 7, none⟩)) w)) ?_
        clear hF; intro a hF
        refine seq_yl hF (wn_none rfl) rfl rfl (yl_load (fun _ h => h ▸ hS) hF rfl rfl 0 rfl ag4 rfl) ?_
        clear hF; intro a hF
        refine wpList_nil ?_
        refine then_n ?_
        refine c_cond hF rfl (fun hc68 => ?_) (fun hc68 => ?_)
        · first | (replace hc68 := of_decide_eq_true hc68) | (subst hc68) | (replace hc68 := bnot_t hc68; subst hc68) | skip
          refine c_region ?_
          refine seq_yl hF (wn_none rfl) rfl rfl (yl_move hF rfl rfl) ?_
          clear hF; intro a hF
          refine seq_wp (wn_none rfl) (wp_bslice (parts := [(0, .const (Go.Value.int Go.IntKind.i64 1))]) (vs := [(0, _)]) (enc := encI) (e := 3) (size := 1) (cs := #[.int .i64 (1)]) hF hS rfl rfl rfl rfl ([(1)] : List Int) (fun w => by kernel_rfl) rfl rfl rfl (by decide) ?_)
          clear hF hS; intro a w v69 hF hS
          obtain ⟨Av69, cv69, rfl⟩ := hS.form 0 rfl
          refine seq_wp (wn_none rfl) (wp_app0 (enc := encI) hF hS rfl rfl rfl rfl rfl sl22 inf3 rfl (by decide) (hS.rdRow 0 rfl) encI_one (by decide) (by first | omega | (simp only [List.length_append, List.length_cons, List.length_nil]; omega)) ?_)
          clear hF hS; intro a w v70 hF hS
          obtain ⟨Av70, cv70, rfl⟩ := hS.form 0 rfl
          refine seq_yl hF (wn_none rfl) rfl rfl (yl_assign hF rfl rfl) ?_
          clear hF; intro a hF
          refine wpList_nil ?_
          refine then_n ?_
          refine c_seq ?_
          refine c_region ?_
          refine seq_yl hF (wn_none rfl) rfl rfl (yl_move hF rfl rfl) ?_
          clear hF; intro a hF
          refine seq_wp (wn_none rfl) (wp_bslice (parts := [(0, .const (Go.Value.int Go.IntKind.i64 2))]) (vs := [(0, _)]) (enc := encI) (e := 3) (size := 1) (cs := #[.int .i64 (2)]) hF hS rfl rfl rfl rfl ([(2)] : List Int) (fun w => by kernel_rfl) rfl rfl rfl (by decide) ?_)
          clear hF hS; intro a w v71 hF hS
          obtain ⟨Av71, cv71, rfl⟩ := hS.form 0 rfl
          refine seq_wp (wn_none rfl) (wp_app (enc := encI) hF hS rfl rfl rfl rfl rfl 1 rfl sl22 inf3 rfl (by decide) (hS.rdRow 0 rfl) encI_one (by decide) (by first | omega | (simp only [List.length_append, List.length_cons, List.length_nil]; omega)) ?_)
          clear hF hS; intro a w v72 hF hS
          obtain ⟨Av72, cv72, rfl⟩ := hS.form 1 rfl
          refine seq_yl hF (wn_none rfl) rfl rfl (yl_assign hF rfl rfl) ?_
          clear hF; intro a hF
          refine wpList_nil ?_
          refine then_n ?_
          refine c_seq ?_
          refine c_seq ?_
          refine c_region ?_
          refine seq_yl hF (wn_none rfl) rfl rfl (yl_fieldAddr hF rfl rfl (fun w => by kernel_rfl : ∀ w, (Instr.fieldAt 26 (.pointer (some ⟨g62, 0, none⟩)) 8).run Try.prog w = .ok (.pointer (some ⟨g62, 8, none⟩)) w)) ?_
          clear hF; intro a hF
          refine seq_yl hF (wn_none rfl) rfl rfl (yl_load (fun _ h => h ▸ hS) hF rfl rfl 3 rfl ag4 rfl) ?_
          clear hF; intro a hF
          refine seq_yl hF (wn_none rfl) rfl rfl (yl_move hF rfl rfl) ?_
          clear hF; intro a hF
          refine fr_split hF (fun hc73 hF => ?_) (fun hc73 hF => ?_)
          · first | (replace hc73 := of_decide_eq_true hc73) | (subst hc73) | (replace hc73 := bnot_t hc73; subst hc73) | skip
            refine seq_yl hF (wn_t hF rfl rfl rfl rfl) rfl rfl (yl_move hF rfl rfl) ?_
            clear hF; intro a hF
            refine seq_yl hF (wn_t hF rfl rfl rfl rfl) rfl rfl (yl_un hF rfl rfl (fun _ => run_not)) ?_
            clear hF; intro a hF
            refine seq_yl hF (wn_none rfl) rfl rfl (yl_pick (u := _) (v := undef) hF rfl rfl (fun _ => rfl) (fun h => by cases h)) ?_
            clear hF; intro a hF
            refine wpList_nil ?_
            refine then_n ?_
            refine c_cond hF rfl (fun hc74 => ?_) (fun hc74 => ?_)
            · first | (replace hc74 := of_decide_eq_true hc74) | (subst hc74) | (replace hc74 := bnot_t hc74; subst hc74) | skip
              refine c_region ?_
              refine seq_yl hF (wn_none rfl) rfl rfl (yl_move hF rfl rfl) ?_
              clear hF; intro a hF
              refine seq_wp (wn_none rfl) (wp_bslice (parts := [(0, .const (Go.Value.int Go.IntKind.i64 3))]) (vs := [(0, _)]) (enc := encI) (e := 3) (size := 1) (cs := #[.int .i64 (3)]) hF hS rfl rfl rfl rfl ([(3)] : List Int) (fun w => by kernel_rfl) rfl rfl rfl (by decide) ?_)
              clear hF hS; intro a w v75 hF hS
              obtain ⟨Av75, cv75, rfl⟩ := hS.form 0 rfl
              refine seq_wp (wn_none rfl) (wp_app (enc := encI) hF hS rfl rfl rfl rfl rfl 2 rfl sl22 inf3 rfl (by decide) (hS.rdRow 0 rfl) encI_one (by decide) (by first | omega | (simp only [List.length_append, List.length_cons, List.length_nil]; omega)) ?_)
              clear hF hS; intro a w v76 hF hS
              obtain ⟨Av76, cv76, rfl⟩ := hS.form 2 rfl
              refine seq_yl hF (wn_none rfl) rfl rfl (yl_assign hF rfl rfl) ?_
              clear hF; intro a hF
              refine wpList_nil ?_
              refine then_n ?_
              refine c_seq ?_
              refine c_region ?_
              refine seq_yl hF (wn_none rfl) rfl rfl (yl_move hF rfl rfl) ?_
              clear hF; intro a hF
              refine seq_yl hF (wn_none rfl) rfl rfl (yl_assign hF rfl rfl) ?_
              clear hF; intro a hF
              refine wpList_nil ?_
              refine then_n ?_
              refine wp_ret ?_
              refine inb_r ?_
              refine then_r ?_
              refine ret_t hF rfl rfl ?_
              first | rw [stF_3 (by omega)] | rw [stF_1 (by omega)] | rw [stF_w1 (by omega)] | rw [stF_wa (by omega)] | rw [stF_wb (by omega)] | rw [stF_o (by omega) (by omega) (by omega)]
              exact ⟨_, rfl, _, rfl, (hS.sub [2] (by decide) rfl (by simp))⟩
            · first | (replace hc74 := of_decide_eq_false hc74) | (subst hc74) | (replace hc74 := bnot_f hc74; subst hc74) | skip
              refine wp_skip ?_
              refine then_n ?_
              refine c_seq ?_
              refine c_region ?_
              refine seq_yl hF (wn_none rfl) rfl rfl (yl_move hF rfl rfl) ?_
              clear hF; intro a hF
              refine seq_yl hF (wn_none rfl) rfl rfl (yl_assign hF rfl rfl) ?_
              clear hF; intro a hF
              refine wpList_nil ?_
              refine then_n ?_
              refine wp_ret ?_
              refine inb_r ?_
              refine then_r ?_
              refine ret_t hF rfl rfl ?_
              first | rw [stF_3 (by omega)] | rw [stF_1 (by omega)] | rw [stF_w1 (by omega)] | rw [stF_wa (by omega)] | rw [stF_wb (by omega)] | rw [stF_o (by omega) (by omega) (by omega)]
              exact ⟨_, rfl, _, rfl, (hS.sub [1] (by decide) rfl (by simp))⟩
          · first | (replace hc73 := of_decide_eq_false hc73) | (subst hc73) | (replace hc73 := bnot_f hc73; subst hc73) | skip
            refine seq_skip hF (wn_f hF rfl rfl rfl rfl) rfl rfl ?_
            clear hF; intro a hF
            refine seq_skip hF (wn_f hF rfl rfl rfl rfl) rfl rfl ?_
            clear hF; intro a hF
            refine seq_yl hF (wn_none rfl) rfl rfl (yl_pick (u := _) (v := undef) hF rfl rfl (fun h => by cases h) (fun _ => rfl)) ?_
            clear hF; intro a hF
            refine wpList_nil ?_
            refine then_n ?_
            refine c_cond_f hF rfl ?_
            refine wp_skip ?_
            refine then_n ?_
            refine c_seq ?_
            refine c_region ?_
            refine seq_yl hF (wn_none rfl) rfl rfl (yl_move hF rfl rfl) ?_
            clear hF; intro a hF
            refine seq_yl hF (wn_none rfl) rfl rfl (yl_assign hF rfl rfl) ?_
            clear hF; intro a hF
            refine wpList_nil ?_
            refine then_n ?_
            refine wp_ret ?_
            refine inb_r ?_
            refine then_r ?_
            refine ret_t hF rfl rfl ?_
            first | rw [stF_3 (by omega)] | rw [stF_1 (by omega)] | rw [stF_w1 (by omega)] | rw [stF_wa (by omega)] | rw [stF_wb (by omega)] | rw [stF_o (by omega) (by omega) (by omega)]
            exact ⟨_, rfl, _, rfl, (hS.sub [1] (by decide) rfl (by simp))⟩
        · first | (replace hc68 := of_decide_eq_false hc68) | (subst hc68) | (replace hc68 := bnot_f hc68; subst hc68) | skip
          refine wp_skip ?_
          refine then_n ?_
          refine c_seq ?_
          refine c_region ?_
          refine seq_yl hF (wn_none rfl) rfl rfl (yl_move hF rfl rfl) ?_
          clear hF; intro a hF
          refine seq_wp (wn_none rfl) (wp_bslice (parts := [(0, .const (Go.Value.int Go.IntKind.i64 2))]) (vs := [(0, _)]) (enc := encI) (e := 3) (size := 1) (cs := #[.int .i64 (2)]) hF hS rfl rfl rfl rfl ([(2)] : List Int) (fun w => by kernel_rfl) rfl rfl rfl (by decide) ?_)
          clear hF hS; intro a w v77 hF hS
          obtain ⟨Av77, cv77, rfl⟩ := hS.form 0 rfl
          refine seq_wp (wn_none rfl) (wp_app0 (enc := encI) hF hS rfl rfl rfl rfl rfl sl22 inf3 rfl (by decide) (hS.rdRow 0 rfl) encI_one (by decide) (by first | omega | (simp only [List.length_append, List.length_cons, List.length_nil]; omega)) ?_)
          clear hF hS; intro a w v78 hF hS
          obtain ⟨Av78, cv78, rfl⟩ := hS.form 0 rfl
          refine seq_yl hF (wn_none rfl) rfl rfl (yl_assign hF rfl rfl) ?_
          clear hF; intro a hF
          refine wpList_nil ?_
          refine then_n ?_
          refine c_seq ?_
          refine c_seq ?_
          refine c_region ?_
          refine seq_yl hF (wn_none rfl) rfl rfl (yl_fieldAddr hF rfl rfl (fun w => by kernel_rfl : ∀ w, (Instr.fieldAt 26 (.pointer (some ⟨g62, 0, none⟩)) 8).run Try.prog w = .ok (.pointer (some ⟨g62, 8, none⟩)) w)) ?_
          clear hF; intro a hF
          refine seq_yl hF (wn_none rfl) rfl rfl (yl_load (fun _ h => h ▸ hS) hF rfl rfl 2 rfl ag4 rfl) ?_
          clear hF; intro a hF
          refine seq_yl hF (wn_none rfl) rfl rfl (yl_move hF rfl rfl) ?_
          clear hF; intro a hF
          refine fr_split hF (fun hc79 hF => ?_) (fun hc79 hF => ?_)
          · first | (replace hc79 := of_decide_eq_true hc79) | (subst hc79) | (replace hc79 := bnot_t hc79; subst hc79) | skip
            refine seq_yl hF (wn_t hF rfl rfl rfl rfl) rfl rfl (yl_move hF rfl rfl) ?_
            clear hF; intro a hF
            refine seq_yl hF (wn_t hF rfl rfl rfl rfl) rfl rfl (yl_un hF rfl rfl (fun _ => run_not)) ?_
            clear hF; intro a hF
            refine seq_yl hF (wn_none rfl) rfl rfl (yl_pick (u := _) (v := undef) hF rfl rfl (fun _ => rfl) (fun h => by cases h)) ?_
            clear hF; intro a hF
            refine wpList_nil ?_
            refine then_n ?_
            refine c_cond hF rfl (fun hc80 => ?_) (fun hc80 => ?_)
            · first | (replace hc80 := of_decide_eq_true hc80) | (subst hc80) | (replace hc80 := bnot_t hc80; subst hc80) | skip
              refine c_region ?_
              refine seq_yl hF (wn_none rfl) rfl rfl (yl_move hF rfl rfl) ?_
              clear hF; intro a hF
              refine seq_wp (wn_none rfl) (wp_bslice (parts := [(0, .const (Go.Value.int Go.IntKind.i64 3))]) (vs := [(0, _)]) (enc := encI) (e := 3) (size := 1) (cs := #[.int .i64 (3)]) hF hS rfl rfl rfl rfl ([(3)] : List Int) (fun w => by kernel_rfl) rfl rfl rfl (by decide) ?_)
              clear hF hS; intro a w v81 hF hS
              obtain ⟨Av81, cv81, rfl⟩ := hS.form 0 rfl
              refine seq_wp (wn_none rfl) (wp_app (enc := encI) hF hS rfl rfl rfl rfl rfl 1 rfl sl22 inf3 rfl (by decide) (hS.rdRow 0 rfl) encI_one (by decide) (by first | omega | (simp only [List.length_append, List.length_cons, List.length_nil]; omega)) ?_)
              clear hF hS; intro a w v82 hF hS
              obtain ⟨Av82, cv82, rfl⟩ := hS.form 1 rfl
              refine seq_yl hF (wn_none rfl) rfl rfl (yl_assign hF rfl rfl) ?_
              clear hF; intro a hF
              refine wpList_nil ?_
              refine then_n ?_
              refine c_seq ?_
              refine c_region ?_
              refine seq_yl hF (wn_none rfl) rfl rfl (yl_move hF rfl rfl) ?_
              clear hF; intro a hF
              refine seq_yl hF (wn_none rfl) rfl rfl (yl_assign hF rfl rfl) ?_
              clear hF; intro a hF
              refine wpList_nil ?_
              refine then_n ?_
              refine wp_ret ?_
              refine inb_r ?_
              refine then_r ?_
              refine ret_t hF rfl rfl ?_
              first | rw [stF_3 (by omega)] | rw [stF_1 (by omega)] | rw [stF_w1 (by omega)] | rw [stF_wa (by omega)] | rw [stF_wb (by omega)] | rw [stF_o (by omega) (by omega) (by omega)]
              exact ⟨_, rfl, _, rfl, (hS.sub [1] (by decide) rfl (by simp))⟩
            · first | (replace hc80 := of_decide_eq_false hc80) | (subst hc80) | (replace hc80 := bnot_f hc80; subst hc80) | skip
              refine wp_skip ?_
              refine then_n ?_
              refine c_seq ?_
              refine c_region ?_
              refine seq_yl hF (wn_none rfl) rfl rfl (yl_move hF rfl rfl) ?_
              clear hF; intro a hF
              refine seq_yl hF (wn_none rfl) rfl rfl (yl_assign hF rfl rfl) ?_
              clear hF; intro a hF
              refine wpList_nil ?_
              refine then_n ?_
              refine wp_ret ?_
              refine inb_r ?_
              refine then_r ?_
              refine ret_t hF rfl rfl ?_
              first | rw [stF_3 (by omega)] | rw [stF_1 (by omega)] | rw [stF_w1 (by omega)] | rw [stF_wa (by omega)] | rw [stF_wb (by omega)] | rw [stF_o (by omega) (by omega) (by omega)]
              exact ⟨_, rfl, _, rfl, (hS.sub [0] (by decide) rfl (by simp))⟩
          · first | (replace hc79 := of_decide_eq_false hc79) | (subst hc79) | (replace hc79 := bnot_f hc79; subst hc79) | skip
            refine seq_skip hF (wn_f hF rfl rfl rfl rfl) rfl rfl ?_
            clear hF; intro a hF
            refine seq_skip hF (wn_f hF rfl rfl rfl rfl) rfl rfl ?_
            clear hF; intro a hF
            refine seq_yl hF (wn_none rfl) rfl rfl (yl_pick (u := _) (v := undef) hF rfl rfl (fun h => by cases h) (fun _ => rfl)) ?_
            clear hF; intro a hF
            refine wpList_nil ?_
            refine then_n ?_
            refine c_cond_f hF rfl ?_
            refine wp_skip ?_
            refine then_n ?_
            refine c_seq ?_
            refine c_region ?_
            refine seq_yl hF (wn_none rfl) rfl rfl (yl_move hF rfl rfl) ?_
            clear hF; intro a hF
            refine seq_yl hF (wn_none rfl) rfl rfl (yl_assign hF rfl rfl) ?_
            clear hF; intro a hF
            refine wpList_nil ?_
            refine then_n ?_
            refine wp_ret ?_
            refine inb_r ?_
            refine then_r ?_
            refine ret_t hF rfl rfl ?_
            first | rw [stF_3 (by omega)] | rw [stF_1 (by omega)] | rw [stF_w1 (by omega)] | rw [stF_wa (by omega)] | rw [stF_wb (by omega)] | rw [stF_o (by omega) (by omega) (by omega)]
            exact ⟨_, rfl, _, rfl, (hS.sub [0] (by decide) rfl (by simp))⟩
      · first | (replace hc67 := of_decide_eq_false hc67) | (subst hc67) | (replace hc67 := bnot_f hc67; subst hc67) | skip
        refine wp_skip ?_
        refine inb_n ?_
        refine then_n ?_
        refine c_seq ?_
        refine c_region ?_
        refine seq_yl hF (wn_none rfl) rfl rfl (yl_assign hF rfl rfl) ?_
        clear hF; intro a hF
        refine wpList_nil ?_
        refine then_n ?_
        refine wp_ret ?_
        refine ret_t hF rfl rfl ?_
        first | rw [stF_3 (by omega)] | rw [stF_1 (by omega)] | rw [stF_w1 (by omega)] | rw [stF_wa (by omega)] | rw [stF_wb (by omega)] | rw [stF_o (by omega) (by omega) (by omega)]
        replace hS := hS.addNil 3 1
        exact ⟨_, rfl, _, rfl, (hS.sub [0] (by decide) rfl (by simp))⟩

theorem stages2_any (q0 q1 q2 kind q4 q5 : Int) (q6 : ByteArray) (p fu : Bool) (q9 : Int) (fua : Bool) (w0 : World) :
    Fn Try.prog 12 #[.agg #[.int .i64 q0, .int .i64 q1, .int .i64 q2, .int .i64 kind, .int .i64 q4, .int .i64 q5, .string q6, .bool p, .bool fu, .int .i64 q9], .bool fua] w0 (fun v w' => ∃ v1, v = v1 ∧ Sat w0 w' [.row 3 1 v1 (stF kind p fu fua).length (cells encI (stF kind p fu fua))]) := by
  refine c_enter (N := 34) (l := [_, _]) Try.func12 rfl rfl (fun a w hF hS => ?_)
  refine c_seq ?_
  refine c_region ?_
  refine seq_wp (wn_none rfl) (wp_box (cs := #[_, _, _, _, _, _, _, _, _, _]) hF hS rfl rfl rfl rfl rfl ?_)
  clear hF hS; intro a w g84 hF hS
  refine seq_yl hF (wn_none rfl) rfl rfl (yl_assign hF rfl rfl) ?_
  clear hF; intro a hF
  refine wpList_nil ?_
  refine then_n ?_
  refine c_seq ?_
  refine c_region ?_
  refine seq_yl hF (wn_none rfl) rfl rfl (yl_assign hF rfl rfl) ?_
  clear hF; intro a hF
  refine wpList_nil ?_
  refine then_n ?_
  refine c_seq ?_
  refine c_seq ?_
  refine c_region ?_
  refine seq_yl hF (wn_none rfl) rfl rfl (yl_fieldAddr hF rfl rfl (fun w => by kernel_rfl : ∀ w, (Instr.fieldAt 26 (.pointer (some ⟨g84, 0, none⟩)) 3).run Try.prog w = .ok (.pointer (some ⟨g84, 3, none⟩)) w)) ?_
  clear hF; intro a hF
  refine seq_yl hF (wn_none rfl) rfl rfl (yl_load (fun _ h => h ▸ hS) hF rfl rfl 0 rfl ag3 rfl) ?_
  clear hF; intro a hF
  refine wpList_nil ?_
  refine then_n ?_
  refine wp_block ?_
  refine c_seq ?_
  refine c_region ?_
  refine seq_yl hF (wn_none rfl) rfl rfl (yl_bin hF rfl rfl rfl rfl (fun _ => run_eql)) ?_
  clear hF; intro a hF
  refine seq_yl hF (wn_none rfl) rfl rfl (yl_assign hF rfl rfl) ?_
  clear hF; intro a hF
  refine wpList_nil ?_
  refine then_n ?_
  refine c_cond hF rfl (fun hc85 => ?_) (fun hc85 => ?_)
  · first | (replace hc85 := of_decide_eq_true hc85) | (subst hc85) | (replace hc85 := bnot_t hc85; subst hc85) | skip
    refine c_seq ?_
    refine c_region ?_
    refine seq_wp (wn_none rfl) (wp_bslice (parts := [(0, .const (Go.Value.int Go.IntKind.i64 1))]) (vs := [(0, _)]) (enc := encI) (e := 3) (size := 1) (cs := #[.int .i64 (1)]) hF hS rfl rfl rfl rfl ([(1)] : List Int) (fun w => by kernel_rfl) rfl rfl rfl (by decide) ?_)
    clear hF hS; intro a w v86 hF hS
    obtain ⟨Av86, cv86, rfl⟩ := hS.form 0 rfl
    refine seq_yl hF (wn_none rfl) rfl rfl (yl_assign hF rfl rfl) ?_
    clear hF; intro a hF
    refine wpList_nil ?_
    refine then_n ?_
    refine wp_ret ?_
    refine inb_r ?_
    refine then_r ?_
    refine ret_t hF rfl rfl ?_
    first | rw [stF_3 (by omega)] | rw [stF_1 (by omega)] | rw [stF_w1 (by omega)] | rw [stF_wa (by omega)] | rw [stF_wb (by omega)] | rw [stF_o (by omega) (by omega) (by omega)]
    exact ⟨_, rfl, _, rfl, (hS.sub [0] (by decide) rfl (by simp))⟩
  · first | (replace hc85 := of_decide_eq_false hc85) | (subst hc85) | (replace hc85 := bnot_f hc85; subst hc85) | skip
    refine c_seq ?_
    refine c_region ?_
    refine seq_yl hF (wn_none rfl) rfl rfl (yl_bin hF rfl rfl rfl rfl (fun _ => run_eql)) ?_
    clear hF; intro a hF
    refine seq_yl hF (wn_none rfl) rfl rfl (yl_assign hF rfl rfl) ?_
    clear hF; intro a hF
    refine wpList_nil ?_
    refine then_n ?_
    refine c_cond hF rfl (fun hc87 => ?_) (fun hc87 => ?_)
    · first | (replace hc87 := of_decide_eq_true hc87) | (subst hc87) | (replace hc87 := bnot_t hc87; subst hc87) | skip
      refine c_seq ?_
      refine c_region ?_
      refine seq_wp (wn_none rfl) (wp_bslice (parts := [(0, .const (Go.Value.int Go.IntKind.i64 2))]) (vs := [(0, _)]) (enc := encI) (e := 3) (size := 1) (cs := #[.int .i64 (2)]) hF hS rfl rfl rfl rfl ([(2)] : List Int) (fun w => by kernel_rfl) rfl rfl rfl (by decide) ?_)
      clear hF hS; intro a w v88 hF hS
      obtain ⟨Av88, cv88, rfl⟩ := hS.form 0 rfl
      refine seq_yl hF (wn_none rfl) rfl rfl (yl_assign hF rfl rfl) ?_
      clear hF; intro a hF
      refine wpList_nil ?_
      refine then_n ?_
      refine wp_ret ?_
      refine inb_r ?_
      refine then_r ?_
      refine ret_t hF rfl rfl ?_
      first | rw [stF_3 (by omega)] | rw [stF_1 (by omega)] | rw [stF_w1 (by omega)] | rw [stF_wa (by omega)] | rw [stF_wb (by omega)] | rw [stF_o (by omega) (by omega) (by omega)]
      exact ⟨_, rfl, _, rfl, (hS.sub [0] (by decide) rfl (by simp))⟩
    · first | (replace hc87 := of_decide_eq_false hc87) | (subst hc87) | (replace hc87 := bnot_f hc87; subst hc87) | skip
      refine c_seq ?_
      refine c_region ?_
      refine seq_yl hF (wn_none rfl) rfl rfl (yl_bin hF rfl rfl rfl rfl (fun _ => run_eql)) ?_
      clear hF; intro a hF
      refine seq_yl hF (wn_none rfl) rfl rfl (yl_assign hF rfl rfl) ?_
      clear hF; intro a hF
      refine wpList_nil ?_
      refine then_n ?_
      refine c_cond hF rfl (fun hc89 => ?_) (fun hc89 => ?_)
      · first | (replace hc89 := of_decide_eq_true hc89) | (subst hc89) | (replace hc89 := bnot_t hc89; subst hc89) | skip
        refine c_seq ?_
        refine c_seq ?_
        refine c_region ?_
        refine seq_yl hF (wn_none rfl) rfl rfl (yl_fieldAddr hF rfl rfl (fun w => by kernel_rfl : ∀ w, (Instr.fieldAt 26 (.pointer (some ⟨g84, 0, none⟩)) 7).run Try.prog w = .ok (.pointer (some ⟨g84, 7, none⟩)) w)) ?_
        clear hF; intro a hF
        refine seq_yl hF (wn_none rfl) rfl rfl (yl_load (fun _ h => h ▸ hS) hF rfl rfl 0 rfl ag4 rfl) ?_
        clear hF; intro a hF
        refine wpList_nil ?_
        refine then_n ?_
        refine c_cond hF rfl (fun hc90 => ?_) (fun hc90 => ?_)
        · first | (replace hc90 := of_decide_eq_true hc90) | (subst hc90) | (replace hc90 := bnot_t hc90; subst hc90) | skip
          refine c_region ?_
          refine seq_yl hF (wn_none rfl) rfl rfl (yl_move hF rfl rfl) ?_
          clear hF; intro a hF
          refine seq_wp (wn_none rfl) (wp_bslice (parts := [(0, .const (Go.Value.int Go.IntKind.i64 1))]) (vs := [(0, _)]) (enc := encI) (e := 3) (size := 1) (cs := #[.int .i64 (1)]) hF hS rfl rfl rfl rfl ([(1)] : List Int) (fun w => by kernel_rfl) rfl rfl rfl (by decide) ?_)
          clear hF hS; intro a w v91 hF hS
          obtain ⟨Av91, cv91, rfl⟩ := hS.form 0 rfl
          refine seq_wp (wn_none rfl) (wp_app0 (enc := encI) hF hS rfl rfl rfl rfl rfl sl22 inf3 rfl (by decide) (hS.rdRow 0 rfl) encI_one (by decide) (by first | omega | (simp only [List.length_append, List.length_cons, List.length_nil]; omega)) ?_)
          clear hF hS; intro a w v92 hF hS
          obtain ⟨Av92, cv92, rfl⟩ := hS.form 0 rfl
          refine seq_yl hF (wn_none rfl) rfl rfl (yl_assign hF rfl rfl) ?_
          clear hF; intro a hF
          refine wpList_nil ?_
          refine then_n ?_
          refine c_seq ?_
          refine c_region ?_
          refine seq_yl hF (wn_none rfl) rfl rfl (yl_move hF rfl rfl) ?_
          clear hF; intro a hF
          refine seq_wp (wn_none rfl) (wp_bslice (parts := [(0, .const (Go.Value.int Go.IntKind.i64 2))]) (vs := [(0, _)]) (enc := encI) (e := 3) (size := 1) (cs := #[.int .i64 (2)]) hF hS rfl rfl rfl rfl ([(2)] : List Int) (fun w => by kernel_rfl) rfl rfl rfl (by decide) ?_)
          clear hF hS; intro a w v93 hF hS
          obtain ⟨Av93, cv93, rfl⟩ := hS.form 0 rfl
          refine seq_wp (wn_none rfl) (wp_app (enc := encI) hF hS rfl rfl rfl rfl rfl 1 rfl sl22 inf3 rfl (by decide) (hS.rdRow 0 rfl) encI_one (by decide) (by first | omega | (simp only [List.length_append, List.length_cons, List.length_nil]; omega)) ?_)
          clear hF hS; intro a w v94 hF hS
          obtain ⟨Av94, cv94, rfl⟩ := hS.form 1 rfl
          refine seq_yl hF (wn_none rfl) rfl rfl (yl_assign hF rfl rfl) ?_
          clear hF; intro a hF
          refine wpList_nil ?_
          refine then_n ?_
          refine c_seq ?_
          refine c_region ?_
          refine seq_yl hF (wn_none rfl) rfl rfl (yl_fieldAddr hF rfl rfl (fun w => by kernel_rfl : ∀ w, (Instr.fieldAt 26 (.pointer (some ⟨g84, 0, none⟩)) 8).run Try.prog w = .ok (.pointer (some ⟨g84, 8, none⟩)) w)) ?_
          clear hF; intro a hF
          refine seq_yl hF (wn_none rfl) rfl rfl (yl_load (fun _ h => h ▸ hS) hF rfl rfl 3 rfl ag4 rfl) ?_
          clear hF; intro a hF
          refine seq_yl hF (wn_none rfl) rfl rfl (yl_move hF rfl rfl) ?_
          clear hF; intro a hF
          refine fr_split hF (fun hc95 hF => ?_) (fun hc95 hF => ?_)
          · first | (replace hc95 := of_decide_eq_true hc95) | (subst hc95) | (replace hc95 := bnot_t hc95; subst hc95) | skip
            refine seq_yl hF (wn_t hF rfl rfl rfl rfl) rfl rfl (yl_move hF rfl rfl) ?_
            clear hF; intro a hF
            refine seq_yl hF (wn_t hF rfl rfl rfl rfl) rfl rfl (yl_un hF rfl rfl (fun _ => run_not)) ?_
            clear hF; intro a hF
            refine seq_yl hF (wn_none rfl) rfl rfl (yl_pick (u := _) (v := undef) hF rfl rfl (fun _ => rfl) (fun h => by cases h)) ?_
            clear hF; intro a hF
            refine wpList_nil ?_
            refine then_n ?_
            refine c_cond hF rfl (fun hc96 => ?_) (fun hc96 => ?_)
            · first | (replace hc96 := of_decide_eq_true hc96) | (subst hc96) | (replace hc96 := bnot_t hc96; subst hc96) | skip
              refine c_region ?_
              refine seq_yl hF (wn_none rfl) rfl rfl (yl_move hF rfl rfl) ?_
              clear hF; intro a hF
              refine seq_wp (wn_none rfl) (wp_bslice (parts := [(0, .const (Go.Value.int Go.IntKind.i64 3))]) (vs := [(0, _)]) (enc := encI) (e := 3) (size := 1) (cs := #[.int .i64 (3)]) hF hS rfl rfl rfl rfl ([(3)] : List Int) (fun w => by kernel_rfl) rfl rfl rfl (by decide) ?_)
              clear hF hS; intro a w v97 hF hS
              obtain ⟨Av97, cv97, rfl⟩ := hS.form 0 rfl
              refine seq_wp (wn_none rfl) (wp_app (enc := encI) hF hS rfl rfl rfl rfl rfl 2 rfl sl22 inf3 rfl (by decide) (hS.rdRow 0 rfl) encI_one (by decide) (by first | omega | (simp only [List.length_append, List.length_cons, List.length_nil]; omega)) ?_)
              clear hF hS; intro a w v98 hF hS
              obtain ⟨Av98, cv98, rfl⟩ := hS.form 2 rfl
              refine seq_yl hF (wn_none rfl) rfl rfl (yl_assign hF rfl rfl) ?_
              clear hF; intro a hF
              refine wpList_nil ?_
              refine inb_n ?_
              refine then_n ?_
              refine c_seq ?_
              refine c_region ?_
              refine seq_yl hF (wn_none rfl) rfl rfl (yl_move hF rfl rfl) ?_
              clear hF; intro a hF
              refine seq_yl hF (wn_none rfl) rfl rfl (yl_assign hF rfl rfl) ?_
              clear hF; intro a hF
              refine wpList_nil ?_
              refine then_n ?_
              refine wp_ret ?_
              refine ret_t hF rfl rfl ?_
              first | rw [stF_3 (by omega)] | rw [stF_1 (by omega)] | rw [stF_w1 (by omega)] | rw [stF_wa (by omega)] | rw [stF_wb (by omega)] | rw [stF_o (by omega) (by omega) (by omega)]
              exact ⟨_, rfl, _, rfl, (hS.sub [2] (by decide) rfl (by simp))⟩
            · first | (replace hc96 := of_decide_eq_false hc96) | (subst hc96) | (replace hc96 := bnot_f hc96; subst hc96) | skip
              refine wp_skip ?_
              refine inb_n ?_
              refine then_n ?_
              refine c_seq ?_
              refine c_region ?_
              refine seq_yl hF (wn_none rfl) rfl rfl (yl_move hF rfl rfl) ?_
              clear hF; intro a hF
              refine seq_yl hF (wn_none rfl) rfl rfl (yl_assign hF rfl rfl) ?_
              clear hF; intro a hF
              refine wpList_nil ?_
              refine then_n ?_
              refine wp_ret ?_
              refine ret_t hF rfl rfl ?_
              first | rw [stF_3 (by omega)] | rw [stF_1 (by omega)] | rw [stF_w1 (by omega)] | rw [stF_wa (by omega)] | rw [stF_wb (by omega)] | rw [stF_o (by omega) (by omega) (by omega)]
              exact ⟨_, rfl, _, rfl, (hS.sub [1] (by decide) rfl (by simp))⟩
          · first | (replace hc95 := of_decide_eq_false hc95) | (subst hc95) | (replace hc95 := bnot_f hc95; subst hc95) | skip
            refine seq_skip hF (wn_f hF rfl rfl rfl rfl) rfl rfl ?_
            clear hF; intro a hF
            refine seq_skip hF (wn_f hF rfl rfl rfl rfl) rfl rfl ?_
            clear hF; intro a hF
            refine seq_yl hF (wn_none rfl) rfl rfl (yl_pick (u := _) (v := undef) hF rfl rfl (fun h => by cases h) (fun _ => rfl)) ?_
            clear hF; intro a hF
            refine wpList_nil ?_
            refine then_n ?_
            refine c_cond_f hF rfl ?_
            refine wp_skip ?_
            refine inb_n ?_
            refine then_n ?_
            refine c_seq ?_
            refine c_region ?_
            refine seq_yl hF (wn_none rfl) rfl rfl (yl_move hF rfl rfl) ?_
            clear hF; intro a hF
            refine seq_yl hF (wn_none rfl) rfl rfl (yl_assign hF rfl rfl) ?_
            clear hF; intro a hF
            refine wpList_nil ?_
            refine then_n ?_
            refine wp_ret ?_
            refine ret_t hF rfl rfl ?_
            first | rw [stF_3 (by omega)] | rw [stF_1 (by omega)] | rw [stF_w1 (by omega)] | rw [stF_wa (by omega)] | rw [stF_wb (by omega)] | rw [stF_o (by omega) (by omega) (by omega)]
            exact ⟨_, rfl, _, rfl, (hS.sub [1] (by decide) rfl (by simp))⟩
        · first | (replace hc90 := of_decide_eq_false hc90) | (subst hc90) | (replace hc90 := bnot_f hc90; subst hc90) | skip
          refine wp_skip ?_
          refine then_n ?_
          refine c_seq ?_
          refine c_region ?_
          refine seq_yl hF (wn_none rfl) rfl rfl (yl_move hF rfl rfl) ?_
          clear hF; intro a hF
          refine seq_wp (wn_none rfl) (wp_bslice (parts := [(0, .const (Go.Value.int Go.IntKind.i64 2))]) (vs := [(0, _)]) (enc := encI) (e := 3) (size := 1) (cs := #[.int .i64 (2)]) hF hS rfl rfl rfl rfl ([(2)] : List Int) (fun w => by kernel_rfl) rfl rfl rfl (by decide) ?_)
          clear hF hS; intro a w v99 hF hS
          obtain ⟨Av99, cv99, rfl⟩ := hS.form 0 rfl
          refine seq_wp (wn_none rfl) (wp_app0 (enc := encI) hF hS rfl rfl rfl rfl rfl sl22 inf3 rfl (by decide) (hS.rdRow 0 rfl) encI_one (by decide) (by first | omega | (simp only [List.length_append, List.length_cons, List.length_nil]; omega)) ?_)
          clear hF hS; intro a w v100 hF hS
          obtain ⟨Av100, cv100, rfl⟩ := hS.form 0 rfl
          refine seq_yl hF (wn_none rfl) rfl rfl (yl_assign hF rfl rfl) ?_
          clear hF; intro a hF
          refine wpList_nil ?_
          refine then_n ?_
          refine c_seq ?_
          refine c_region ?_
          refine seq_yl hF (wn_none rfl) rfl rfl (yl_fieldAddr hF rfl rfl (fun w => by kernel_rfl : ∀ w, (Instr.fieldAt 26 (.pointer (some ⟨g84, 0, none⟩)) 8).run Try.prog w = .ok (.pointer (some ⟨g84, 8, none⟩)) w)) ?_
          clear hF; intro a hF
          refine seq_yl hF (wn_none rfl) rfl rfl (yl_load (fun _ h => h ▸ hS) hF rfl rfl 2 rfl ag4 rfl) ?_
          clear hF; intro a hF
          refine seq_yl hF (wn_none rfl) rfl rfl (yl_move hF rfl rfl) ?_
          clear hF; intro a hF
          refine fr_split hF (fun hc101 hF => ?_) (fun hc101 hF => ?_)
          · first | (replace hc101 := of_decide_eq_true hc101) | (subst hc101) | (replace hc101 := bnot_t hc101; subst hc101) | skip
            refine seq_yl hF (wn_t hF rfl rfl rfl rfl) rfl rfl (yl_move hF rfl rfl) ?_
            clear hF; intro a hF
            refine seq_yl hF (wn_t hF rfl rfl rfl rfl) rfl rfl (yl_un hF rfl rfl (fun _ => run_not)) ?_
            clear hF; intro a hF
            refine seq_yl hF (wn_none rfl) rfl rfl (yl_pick (u := _) (v := undef) hF rfl rfl (fun _ => rfl) (fun h => by cases h)) ?_
            clear hF; intro a hF
            refine wpList_nil ?_
            refine then_n ?_
            refine c_cond hF rfl (fun hc102 => ?_) (fun hc102 => ?_)
            · first | (replace hc102 := of_decide_eq_true hc102) | (subst hc102) | (replace hc102 := bnot_t hc102; subst hc102) | skip
              refine c_region ?_
              refine seq_yl hF (wn_none rfl) rfl rfl (yl_move hF rfl rfl) ?_
              clear hF; intro a hF
              refine seq_wp (wn_none rfl) (wp_bslice (parts := [(0, .const (Go.Value.int Go.IntKind.i64 3))]) (vs := [(0, _)]) (enc := encI) (e := 3) (size := 1) (cs := #[.int .i64 (3)]) hF hS rfl rfl rfl rfl ([(3)] : List Int) (fun w => by kernel_rfl) rfl rfl rfl (by decide) ?_)
              clear hF hS; intro a w v103 hF hS
              obtain ⟨Av103, cv103, rfl⟩ := hS.form 0 rfl
              refine seq_wp (wn_none rfl) (wp_app (enc := encI) hF hS rfl rfl rfl rfl rfl 1 rfl sl22 inf3 rfl (by decide) (hS.rdRow 0 rfl) encI_one (by decide) (by first | omega | (simp only [List.length_append, List.length_cons, List.length_nil]; omega)) ?_)
              clear hF hS; intro a w v104 hF hS
              obtain ⟨Av104, cv104, rfl⟩ := hS.form 1 rfl
              refine seq_yl hF (wn_none rfl) rfl rfl (yl_assign hF rfl rfl) ?_
              clear hF; intro a hF
              refine wpList_nil ?_
              refine inb_n ?_
              refine then_n ?_
              refine c_seq ?_
              refine c_region ?_
              refine seq_yl hF (wn_none rfl) rfl rfl (yl_move hF rfl rfl) ?_
              clear hF; intro a hF
              refine seq_yl hF (wn_none rfl) rfl rfl (yl_assign hF rfl rfl) ?_
              clear hF; intro a hF
              refine wpList_nil ?_
              refine then_n ?_
              refine wp_ret ?_
              refine ret_t hF rfl rfl ?_
              first | rw [stF_3 (by omega)] | rw [stF_1 (by omega)] | rw [stF_w1 (by omega)] | rw [stF_wa (by omega)] | rw [stF_wb (by omega)] | rw [stF_o (by omega) (by omega) (by omega)]
              exact ⟨_, rfl, _, rfl, (hS.sub [1] (by decide) rfl (by simp))⟩
            · first | (replace hc102 := of_decide_eq_false hc102) | (subst hc102) | (replace hc102 := bnot_f hc102; subst hc102) | skip
              refine wp_skip ?_
              refine inb_n ?_
              refine then_n ?_
              refine c_seq ?_
              refine c_region ?_
              refine seq_yl hF (wn_none rfl) rfl rfl (yl_move hF rfl rfl) ?_
              clear hF; intro a hF
              refine seq_yl hF (wn_none rfl) rfl rfl (yl_assign hF rfl rfl) ?_
              clear hF; intro a hF
              refine wpList_nil ?_
              refine then_n ?_
              refine wp_ret ?_
              refine ret_t hF rfl rfl ?_
              first | rw [stF_3 (by omega)] | rw [stF_1 (by omega)] | rw [stF_w1 (by omega)] | rw [stF_wa (by omega)] | rw [stF_wb (by omega)] | rw [stF_o (by omega) (by omega) (by omega)]
              exact ⟨_, rfl, _, rfl, (hS.sub [0] (by decide) rfl (by simp))⟩
          · first | (replace hc101 := of_decide_eq_false hc101) | (subst hc101) | (replace hc101 := bnot_f hc101; subst hc101) | skip
            refine seq_skip hF (wn_f hF rfl rfl rfl rfl) rfl rfl ?_
            clear hF; intro a hF
            refine seq_skip hF (wn_f hF rfl rfl rfl rfl) rfl rfl ?_
            clear hF; intro a hF
            refine seq_yl hF (wn_none rfl) rfl rfl (yl_pick (u := _) (v := undef) hF rfl rfl (fun h => by cases h) (fun _ => rfl)) ?_
            clear hF; intro a hF
            refine wpList_nil ?_
            refine then_n ?_
            refine c_cond_f hF rfl ?_
            refine wp_skip ?_
            refine inb_n ?_
            refine then_n ?_
            refine c_seq ?_
            refine c_region ?_
            refine seq_yl hF (wn_none rfl) rfl rfl (yl_move hF rfl rfl) ?_
            clear hF; intro a hF
            refine seq_yl hF (wn_none rfl) rfl rfl (yl_assign hF rfl rfl) ?_
            clear hF; intro a hF
            refine wpList_nil ?_
            refine then_n ?_
            refine wp_ret ?_
            refine ret_t hF rfl rfl ?_
            first | rw [stF_3 (by omega)] | rw [stF_1 (by omega)] | rw [stF_w1 (by omega)] | rw [stF_wa (by omega)] | rw [stF_wb (by omega)] | rw [stF_o (by omega) (by omega) (by omega)]
            exact ⟨_, rfl, _, rfl, (hS.sub [0] (by decide) rfl (by simp))⟩
      · first | (replace hc89 := of_decide_eq_false hc89) | (subst hc89) | (replace hc89 := bnot_f hc89; subst hc89) | skip
        refine wp_skip ?_
        refine inb_n ?_
        refine then_n ?_
        refine c_seq ?_
        refine c_region ?_
        refine seq_yl hF (wn_none rfl) rfl rfl (yl_move hF rfl rfl) ?_
        clear hF; intro a hF
        refine seq_yl hF (wn_none rfl) rfl rfl (yl_assign hF rfl rfl) ?_
        clear hF; intro a hF
        refine wpList_nil ?_
        refine then_n ?_
        refine wp_ret ?_
        refine ret_t hF rfl rfl ?_
        first | rw [stF_3 (by omega)] | rw [stF_1 (by omega)] | rw [stF_w1 (by omega)] | rw [stF_wa (by omega)] | rw [stF_wb (by omega)] | rw [stF_o (by omega) (by omega) (by omega)]
        replace hS := hS.addNil 3 1
        exact ⟨_, rfl, _, rfl, (hS.sub [0] (by decide) rfl (by simp))⟩

theorem sameInts_yes (va vb : Value) (La Lb : List Int) (w0 : World) (ha : Rd w0 1 va (La).length (cells encI (La))) (hb : Rd w0 1 vb (Lb).length (cells encI (Lb))) (hn : La.length ≤ 100000) (h : La = Lb) : Fn Try.prog 10 #[va, vb] w0 (fun v w' => v = .bool true ∧ Sat w0 w' []) := by
  have := sameInts_any va vb La Lb w0 ha hb hn
  rwa [decide_eq_true h] at this

end Go.Proofs.Ytglooclndbfhgaa

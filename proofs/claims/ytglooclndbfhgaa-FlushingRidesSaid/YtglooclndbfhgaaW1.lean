/- walks, printed by wip/gen -/
import Derived.Test.YtglooclndbfhgaaF
namespace Go.Proofs.Ytglooclndbfhgaa
open Go.RowKit
set_option linter.unusedVariables false
set_option linter.unusedSimpArgs false

theorem clone_any (v : Value) (L : List Int) (w0 : World) (h : Rd w0 1 v (L).length (cells encI (L))) (hn : L.length ≤ 100000) :
    Fn Try.prog 19 #[v] w0 (fun v w' => ∃ v1, v = v1 ∧ Sat w0 w' [.row 3 1 v1 (L).length (cells encI (L))]) := by
  obtain ⟨Av, cv, rfl⟩ := Rd.form h
  refine c_enter (N := 8) (l := [_]) Try.func19 rfl rfl (fun a w hF hS => ?_)
  replace hS := hS.addRo h
  refine c_seq ?_
  refine c_region ?_
  refine seq_yl hF (wn_none rfl) rfl rfl (yl_assign hF rfl rfl) ?_
  clear hF; intro a hF
  refine wpList_nil ?_
  refine then_n ?_
  refine c_seq ?_
  refine c_seq ?_
  refine c_region ?_
  refine seq_yl hF (wn_none rfl) rfl rfl (yl_move hF rfl rfl) ?_
  clear hF; intro a hF
  refine seq_yl hF (wn_none rfl) rfl rfl (yl_bin hF rfl rfl rfl rfl (fun _ => run_slnil sl22)) ?_
  clear hF; intro a hF
  refine wpList_nil ?_
  refine then_n ?_
  refine c_cond hF rfl (fun hc1 => ?_) (fun hc1 => ?_)
  · first | (replace hc1 := of_decide_eq_true hc1) | (subst hc1) | (replace hc1 := bnot_t hc1; subst hc1) | skip
    refine c_seq ?_
    refine c_region ?_
    refine seq_yl hF (wn_none rfl) rfl rfl (yl_assign hF rfl rfl) ?_
    clear hF; intro a hF
    refine wpList_nil ?_
    refine then_n ?_
    refine wp_ret ?_
    refine then_r ?_
    refine ret_t hF rfl rfl ?_
    obtain rfl := rd_none h (by assumption)
    replace hS := hS.addNil 3 1
    exact ⟨_, rfl, _, rfl, (hS.sub [0] (by decide) rfl (by simp))⟩
  · first | (replace hc1 := of_decide_eq_false hc1) | (subst hc1) | (replace hc1 := bnot_f hc1; subst hc1) | skip
    refine wp_skip ?_
    refine then_n ?_
    refine c_seq ?_
    refine c_region ?_
    refine seq_wp (wn_none rfl) (wp_bslice (parts := []) (vs := []) (enc := encI) (e := 3) (size := 1) (cs := #[]) hF hS rfl rfl rfl rfl ([] : List Int) (fun w => by kernel_rfl) rfl rfl rfl (by decide) ?_)
    clear hF hS; intro a w v3 hF hS
    obtain ⟨Av3, cv3, rfl⟩ := hS.form 0 rfl
    refine seq_yl hF (wn_none rfl) rfl rfl (yl_move hF rfl rfl) ?_
    clear hF; intro a hF
    refine seq_wp (wn_none rfl) (wp_app (enc := encI) hF hS rfl rfl rfl rfl rfl 0 rfl sl22 inf3 rfl (by decide) (hS.rdRo 1 rfl) encI_one (by decide) (by first | omega | (simp only [List.length_append, List.length_cons, List.length_nil]; omega)) ?_)
    clear hF hS; intro a w v4 hF hS
    obtain ⟨Av4, cv4, rfl⟩ := hS.form 0 rfl
    refine seq_yl hF (wn_none rfl) rfl rfl (yl_assign hF rfl rfl) ?_
    clear hF; intro a hF
    refine wpList_nil ?_
    refine then_n ?_
    refine wp_ret ?_
    refine ret_t hF rfl rfl ?_
    exact ⟨_, rfl, _, rfl, (hS.sub [0] (by decide) rfl (by simp))⟩

theorem sameInts_any (va vb : Value) (La Lb : List Int) (w0 : World) (ha : Rd w0 1 va (La).length (cells encI (La))) (hb : Rd w0 1 vb (Lb).length (cells encI (Lb))) (hn : La.length ≤ 100000) :
    Fn Try.prog 10 #[va, vb] w0 (fun v w' => v = .bool (decide (La = Lb)) ∧ Sat w0 w' []) := by
  obtain ⟨Ava, cva, rfl⟩ := Rd.form ha
  obtain ⟨Avb, cvb, rfl⟩ := Rd.form hb
  refine c_enter (N := 26) (l := [_, _]) Try.func10 rfl rfl (fun a w hF hS => ?_)
  replace hS := hS.addRo hb
  replace hS := hS.addRo ha
  refine c_seq ?_
  refine c_region ?_
  refine seq_yl hF (wn_none rfl) rfl rfl (yl_assign hF rfl rfl) ?_
  clear hF; intro a hF
  refine wpList_nil ?_
  refine then_n ?_
  refine c_seq ?_
  refine c_seq ?_
  refine c_region ?_
  refine seq_yl hF (wn_none rfl) rfl rfl (yl_move hF rfl rfl) ?_
  clear hF; intro a hF
  refine seq_yl hF (wn_none rfl) rfl rfl (yl_len hF rfl rfl (fun _ => run_lenRd sl22 (hS.rdRo 0 rfl))) ?_
  clear hF; intro a hF
  refine seq_yl hF (wn_none rfl) rfl rfl (yl_move hF rfl rfl) ?_
  clear hF; intro a hF
  refine seq_yl hF (wn_none rfl) rfl rfl (yl_len hF rfl rfl (fun _ => run_lenRd sl22 (hS.rdRo 1 rfl))) ?_
  clear hF; intro a hF
  refine seq_yl hF (wn_none rfl) rfl rfl (yl_bin hF rfl rfl rfl rfl (fun _ => run_neq)) ?_
  clear hF; intro a hF
  refine wpList_nil ?_
  refine then_n ?_
  refine c_cond hF rfl (fun hc5 => ?_) (fun hc5 => ?_)
  · first | (replace hc5 := of_decide_eq_true hc5) | (subst hc5) | (replace hc5 := bnot_t hc5; subst hc5) | skip
    refine c_seq ?_
    refine c_region ?_
    refine seq_yl hF (wn_none rfl) rfl rfl (yl_assign hF rfl rfl) ?_
    clear hF; intro a hF
    refine wpList_nil ?_
    refine then_n ?_
    refine wp_ret ?_
    refine then_r ?_
    refine ret_t hF rfl rfl ?_
    exact ⟨_, rfl, congrArg Value.bool (same_no_len (by omega)), (hS.sub [] (by decide) rfl (by simp))⟩
  · first | (replace hc5 := of_decide_eq_false hc5) | (subst hc5) | (replace hc5 := bnot_f hc5; subst hc5) | skip
    refine wp_skip ?_
    refine then_n ?_
    refine c_seq ?_
    refine c_seq ?_
    refine c_region ?_
    refine seq_yl hF (wn_none rfl) rfl rfl (yl_assign hF rfl rfl) ?_
    clear hF; intro a hF
    refine wpList_nil ?_
    refine then_n ?_
    refine wp_block ?_
    refine c_loop (fun m a w => ∃ k : Nat, m = La.length - k ∧ (k ≤ La.length ∧ La.take k = Lb.take k) ∧ Fr 26 a [(0, .slice Ava La.length cva), (1, .slice Avb Lb.length cvb), (5, .int .i64 ((k : Nat) : Int))] ∧ Sat w0 w [.ro 1 (.slice Ava La.length cva) La.length (cells encI La), .ro 1 (.slice Avb Lb.length cvb) Lb.length (cells encI Lb)]) (La.length - 0) ?_ ?_
    · exact ⟨0, rfl, ⟨Nat.zero_le _, rfl⟩, hF.to [0, 1, 5] rfl, (hS.sub [0, 1] (by decide) rfl (by simp))⟩
    · clear hF hS a w; rintro m a w ⟨k, rfl, hinv, hF, hS⟩
      have hk := hinv.1
      refine c_seq ?_
      refine c_seq ?_
      refine c_region ?_
      refine seq_yl hF (wn_none rfl) rfl rfl (yl_move hF rfl rfl) ?_
      clear hF; intro a hF
      refine seq_yl hF (wn_none rfl) rfl rfl (yl_move hF rfl rfl) ?_
      clear hF; intro a hF
      refine seq_yl hF (wn_none rfl) rfl rfl (yl_len hF rfl rfl (fun _ => run_lenRd sl22 (hS.rdRo 0 rfl))) ?_
      clear hF; intro a hF
      refine seq_yl hF (wn_none rfl) rfl rfl (yl_bin hF rfl rfl rfl rfl (fun _ => run_lss)) ?_
      clear hF; intro a hF
      refine wpList_nil ?_
      refine then_n ?_
      refine c_cond hF rfl (fun hc6 => ?_) (fun hc6 => ?_)
      · first | (replace hc6 := of_decide_eq_true hc6) | (subst hc6) | (replace hc6 := bnot_t hc6; subst hc6) | skip
        refine wp_skip ?_
        refine then_n ?_
        refine c_seq ?_
        refine wp_block ?_
        refine c_seq ?_
        refine ha_startS hS [0, 1] 9 (by kernel_rfl) ?_; clear hS; intro w hS
        have hSS := hS.sub [0, 1] (by decide) rfl (by simp)
        refine ha_yl 0 hF rfl rfl rfl (by kernel_rfl) (by kernel_rfl) (by kernel_rfl) (by decide) (fun _ _ _ h => h) (wn_none rfl) (.inr hSS) (yl_move hF rfl rfl) ?_
        clear hF; intro a hF
        refine ha_yl 1 hF rfl rfl rfl (by kernel_rfl) (by kernel_rfl) (by kernel_rfl) (by decide) (fun _ _ _ h => h) (wn_none rfl) (.inr hSS) (yl_move hF rfl rfl) ?_
        clear hF; intro a hF
        have hlt_hx7 : k < (La).length := by first | omega | (simp; done) | (simp; omega)
        obtain ⟨ad8, rfl⟩ := rd_some (hS.rdRo 0 rfl) hlt_hx7
        obtain ⟨x7, hx7⟩ := get_some hlt_hx7
        refine ha_yl 2 hF rfl rfl rfl (by kernel_rfl) (by kernel_rfl) (by kernel_rfl) (by decide) (fun _ _ _ h => h) (wn_none rfl) (.inr hSS) (yl_indexAddr hF rfl rfl rfl (fun _ => run_idx sl22 sz3 hlt_hx7)) ?_
        clear hF; intro a hF
        refine ha_yl 4 hF rfl rfl rfl (by kernel_rfl) (by kernel_rfl) (by kernel_rfl) (by decide) (fun _ _ _ h => h) (wn_none rfl) (.inr hSS) (yl_move hF rfl rfl) ?_
        clear hF; intro a hF
        refine ha_yl 5 hF rfl rfl rfl (by kernel_rfl) (by kernel_rfl) (by kernel_rfl) (by decide) (fun _ _ _ h => h) (wn_none rfl) (.inr hSS) (yl_move hF rfl rfl) ?_
        clear hF; intro a hF
        have hlt_hx9 : k < (Lb).length := by first | omega | (simp; done) | (simp; omega)
        obtain ⟨ad10, rfl⟩ := rd_some (hS.rdRo 1 rfl) hlt_hx9
        obtain ⟨x9, hx9⟩ := get_some hlt_hx9
        refine ha_yl 6 hF rfl rfl rfl (by kernel_rfl) (by kernel_rfl) (by kernel_rfl) (by decide) (fun _ _ _ h => h) (wn_none rfl) (.inr hSS) (yl_indexAddr hF rfl rfl rfl (fun _ => run_idx sl22 sz3 hlt_hx9)) ?_
        clear hF; intro a hF
        refine ha_ld 3 hF rfl rfl rfl (by kernel_rfl) (by kernel_rfl) (by kernel_rfl) (by decide) (by kernel_rfl) (by kernel_rfl) (fun _ _ _ h => h) (wn_none rfl) hSS (yl_loadAt hF rfl rfl ag3 (fun _ h => rd_cell0 (Sat.rdRo h 0 rfl) encI_len hx7 rfl rfl)) ?_
        clear hF; intro a hF
        refine ha_ld 7 hF rfl rfl rfl (by kernel_rfl) (by kernel_rfl) (by kernel_rfl) (by decide) (by kernel_rfl) (by kernel_rfl) (fun _ _ _ h => h) (wn_none rfl) hSS (yl_loadAt hF rfl rfl ag3 (fun _ h => rd_cell0 (Sat.rdRo h 1 rfl) encI_len hx9 rfl rfl)) ?_
        clear hF; intro a hF
        refine ha_yl 8 hF rfl rfl rfl (by kernel_rfl) (by kernel_rfl) (by kernel_rfl) (by decide) (fun _ _ _ h => h) (wn_none rfl) (.inr hSS) (yl_bin hF rfl rfl rfl rfl (fun _ => run_neq)) ?_
        clear hF; intro a hF
        refine ha_done (by kernel_rfl) ?_ _
        refine then_n ?_
        refine c_cond hF rfl (fun hc11 => ?_) (fun hc11 => ?_)
        · first | (replace hc11 := of_decide_eq_true hc11) | (subst hc11) | (replace hc11 := bnot_t hc11; subst hc11) | skip
          refine c_seq ?_
          refine c_region ?_
          refine seq_yl hF (wn_none rfl) rfl rfl (yl_assign hF rfl rfl) ?_
          clear hF; intro a hF
          refine wpList_nil ?_
          refine then_n ?_
          refine wp_ret ?_
          refine inb_r ?_
          refine then_r ?_
          refine then_r ?_
          refine inb_r ?_
          refine then_r ?_
          refine ret_t hF rfl rfl ?_
          exact ⟨_, rfl, congrArg Value.bool (same_no hx7 hx9 (by assumption)), (hS.sub [] (by decide) rfl (by simp))⟩
        · first | (replace hc11 := of_decide_eq_false hc11) | (subst hc11) | (replace hc11 := bnot_f hc11; subst hc11) | skip
          refine wp_skip ?_
          refine inb_n ?_
          refine then_n ?_
          refine c_region ?_
          refine seq_yl hF (wn_none rfl) rfl rfl (yl_move hF rfl rfl) ?_
          clear hF; intro a hF
          refine seq_yl hF (wn_none rfl) rfl rfl (yl_bin hF rfl rfl rfl rfl (fun _ => run_inc (by omega))) ?_
          clear hF; intro a hF
          refine seq_yl hF (wn_none rfl) rfl rfl (yl_assign hF rfl rfl) ?_
          clear hF; intro a hF
          refine wpList_nil ?_
          refine then_n ?_
          exact ⟨_, (by omega), k + 1, rfl, ⟨by omega, take_succ_eq hx7 hx9 (by omega) hinv.2⟩, hF.to [0, 1, 5] rfl, (hS.sub [0, 1] (by decide) rfl (by simp))⟩
      · first | (replace hc6 := of_decide_eq_false hc6) | (subst hc6) | (replace hc6 := bnot_f hc6; subst hc6) | skip
        refine wp_exit ?_
        refine then_x ?_
        refine then_x ?_
        refine inb_x ?_
        refine then_n ?_
        refine c_seq ?_
        refine c_region ?_
        refine seq_yl hF (wn_none rfl) rfl rfl (yl_assign hF rfl rfl) ?_
        clear hF; intro a hF
        refine wpList_nil ?_
        refine then_n ?_
        refine wp_ret ?_
        refine ret_t hF rfl rfl ?_
        exact ⟨_, rfl, congrArg Value.bool (same_yes (by omega) hinv.2), (hS.sub [] (by decide) rfl (by simp))⟩

theorem copied_any (vw vr : Value) (W R : List Int) (b : Bool) (w0 : World) (hw : Rd w0 1 vw (W).length (cells encI (W))) (hr : Rd w0 1 vr (R).length (cells encI (R))) (hW : W.length ≤ 100000) (hR : R.length ≤ 100000) :
    Fn Try.prog 18 #[.agg #[vw, vr, .bool b]] w0 (fun v w' => ∃ v1 v2, v = .agg #[v1, v2, .bool b] ∧ Sat w0 w' [.row 3 1 v1 (W).length (cells encI (W)), .row 3 1 v2 (R).length (cells encI (R))]) := by
  obtain ⟨Avw, cvw, rfl⟩ := Rd.form hw
  obtain ⟨Avr, cvr, rfl⟩ := Rd.form hr
  refine c_enter (N := 12) (l := [_]) Try.func18 rfl rfl (fun a w hF hS => ?_)
  replace hS := hS.addRo hr
  replace hS := hS.addRo hw
  refine c_seq ?_
  refine c_region ?_
  refine seq_wp (wn_none rfl) (wp_box (cs := #[_, _, _]) hF hS rfl rfl rfl rfl rfl ?_)
  clear hF hS; intro a w g12 hF hS
  refine seq_wp (wn_none rfl) (wp_alloc (cs := #[_, _, _]) hF hS rfl rfl rfl zr24 rfl ?_)
  clear hF hS; intro a w g13 hF hS
  refine wpList_nil ?_
  refine then_n ?_
  refine c_seq ?_
  refine ha_startS hS [1] 7 (by kernel_rfl) ?_; clear hS; intro w hS
  have hSS := hS.sub [1] (by decide) rfl (by simp)
  refine ha_yl 0 hF rfl rfl rfl (by kernel_rfl) (by kernel_rfl) (by kernel_rfl) (by decide) (fun _ _ _ h => h) (wn_none rfl) (.inr hSS) (yl_fieldAddr hF rfl rfl (fun w => by kernel_rfl : ∀ w, (Instr.fieldAt 24 (.pointer (some ⟨g12, 0, none⟩)) 0).run Try.prog w = .ok (.pointer (some ⟨g12, 0, none⟩)) w)) ?_
  clear hF; intro a hF
  refine ha_yl 3 hF rfl rfl rfl (by kernel_rfl) (by kernel_rfl) (by kernel_rfl) (by decide) (fun _ _ _ h => h) (wn_none rfl) (.inr hSS) (yl_fieldAddr hF rfl rfl (fun w => by kernel_rfl : ∀ w, (Instr.fieldAt 24 (.pointer (some ⟨g12, 0, none⟩)) 1).run Try.prog w = .ok (.pointer (some ⟨g12, 1, none⟩)) w)) ?_
  clear hF; intro a hF
  refine ha_ld 1 hF rfl rfl rfl (by kernel_rfl) (by kernel_rfl) (by kernel_rfl) (by decide) (by kernel_rfl) (by kernel_rfl) (fun _ _ _ h => h) (wn_none rfl) hSS (yl_load (fun _ h => h) hF rfl rfl 0 rfl ag22 rfl) ?_
  clear hF; intro a hF
  refine ha_ld 4 hF rfl rfl rfl (by kernel_rfl) (by kernel_rfl) (by kernel_rfl) (by decide) (by kernel_rfl) (by kernel_rfl) (fun _ _ _ h => h) (wn_none rfl) hSS (yl_load (fun _ h => h) hF rfl rfl 0 rfl ag22 rfl) ?_
  clear hF; intro a hF
  refine ha_one 2 (by kernel_rfl) rfl (wn_none rfl) (wp_call (vs := [_]) hF rfl rfl rfl rfl cf19 (clone_any _ _ _ (hS.rdRo 2 rfl) (by first | omega | decide | (simp only [List.length_append, List.length_cons, List.length_nil]; omega))) ?_)
  clear hF; rintro _ w ⟨v14, rfl, hS1⟩ a hF
  replace hS := hS.callB hS1 rfl; clear hS1
  obtain ⟨Av14, cv14, rfl⟩ := hS.form 0 rfl
  replace hSS := hS.sub [2] (by decide) rfl (by simp)
  refine ⟨.inr hSS, ?_⟩
  refine ha_yl 6 hF rfl rfl rfl (by kernel_rfl) (by kernel_rfl) (by kernel_rfl) (by decide) (fun _ _ _ h => h) (wn_none rfl) (.inr hSS) (yl_fieldAddr hF rfl rfl (fun w => by kernel_rfl : ∀ w, (Instr.fieldAt 24 (.pointer (some ⟨g12, 0, none⟩)) 0).run Try.prog w = .ok (.pointer (some ⟨g12, 0, none⟩)) w)) ?_
  clear hF; intro a hF
  refine ha_one 5 (by kernel_rfl) rfl (wn_none rfl) (wp_call (vs := [_]) hF rfl rfl rfl rfl cf19 (clone_any _ _ _ (hS.rdRo 4 rfl) (by first | omega | decide | (simp only [List.length_append, List.length_cons, List.length_nil]; omega))) ?_)
  clear hF; rintro _ w ⟨v15, rfl, hS1⟩ a hF
  replace hS := hS.callB hS1 rfl; clear hS1
  obtain ⟨Av15, cv15, rfl⟩ := hS.form 0 rfl
  replace hSS := hS.sub [3] (by decide) rfl (by simp)
  refine ⟨.inr hSS, ?_⟩
  refine ha_one 7 (by kernel_rfl) rfl (wn_none rfl) (wp_store (cs' := #[_, _, _]) hF hS rfl rfl rfl rfl 3 rfl sz22 (by simp [Value.cells, Value.oneCell']) (by simp [Value.cells]) rfl ?_)
  clear hF hS; intro a w hF hS
  refine ⟨.inl (by kernel_rfl), ?_⟩
  refine ha_yl 8 hF rfl rfl rfl (by kernel_rfl) (by kernel_rfl) (by kernel_rfl) (by decide) (fun _ _ _ h => h) (wn_none rfl) (.inl (by kernel_rfl)) (yl_fieldAddr hF rfl rfl (fun w => by kernel_rfl : ∀ w, (Instr.fieldAt 24 (.pointer (some ⟨g12, 0, none⟩)) 1).run Try.prog w = .ok (.pointer (some ⟨g12, 1, none⟩)) w)) ?_
  clear hF; intro a hF
  refine ha_one 9 (by kernel_rfl) rfl (wn_none rfl) (wp_store (cs' := #[_, _, _]) hF hS rfl rfl rfl rfl 3 rfl sz22 (by simp [Value.cells, Value.oneCell']) (by simp [Value.cells]) rfl ?_)
  clear hF hS; intro a w hF hS
  refine ⟨.inl (by kernel_rfl), ?_⟩
  refine ha_done (by kernel_rfl) ?_ _
  refine then_n ?_
  refine c_seq ?_
  refine c_region ?_
  refine seq_yl hF (wn_none rfl) rfl rfl (yl_loadK (rs := [_, _, _]) (fun _ h => h ▸ hS) hF rfl rfl 3 rfl ag24 sz24 rfl rfl) ?_
  clear hF; intro a hF
  refine seq_wp (wn_none rfl) (wp_store (cs' := #[_, _, _]) hF hS rfl rfl rfl rfl 2 rfl sz24 (by simp [Value.cells, Value.oneCell']) (by simp [Value.cells]) rfl ?_)
  clear hF hS; intro a w hF hS
  refine wpList_nil ?_
  refine then_n ?_
  refine wp_ret ?_
  refine ret_c hF rfl (resC hS rfl 2 rfl ag24 sz24) ?_
  exact ⟨_, rfl, _, _, rfl, (hS.sub [1, 0] (by decide) rfl (by simp))⟩

theorem ask_any (vw vr : Value) (W R : List Int) (b : Bool) (id : Int) (w0 : World) (hw : Rd w0 1 vw (W).length (cells encI (W))) (hr : Rd w0 1 vr (R).length (cells encI (R))) (hW : W.length ≤ 100000) (hR : R.length ≤ 100000) :
    Fn Try.prog 14 #[.agg #[vw, vr, .bool b], .int .i64 id] w0 (fun v w' => ∃ v1 v2, v = .agg #[v1, v2, .bool b] ∧ Sat w0 w' [.row 3 1 v1 (W ++ [id]).length (cells encI (W ++ [id])), .row 3 1 v2 (R).length (cells encI (R))]) := by
  obtain ⟨Avw, cvw, rfl⟩ := Rd.form hw
  obtain ⟨Avr, cvr, rfl⟩ := Rd.form hr
  refine c_enter (N := 14) (l := [_, _]) Try.func14 rfl rfl (fun a w hF hS => ?_)
  replace hS := hS.addRo hr
  replace hS := hS.addRo hw
  refine c_seq ?_
  refine c_region ?_
  refine seq_wp (wn_none rfl) (wp_box (cs := #[_, _, _]) hF hS rfl rfl rfl rfl rfl ?_)
  clear hF hS; intro a w g16 hF hS
  refine seq_wp (wn_none rfl) (wp_alloc (cs := #[_, _, _]) hF hS rfl rfl rfl zr24 rfl ?_)
  clear hF hS; intro a w g17 hF hS
  refine wpList_nil ?_
  refine then_n ?_
  refine c_seq ?_
  refine c_region ?_
  refine seq_yl hF (wn_none rfl) rfl rfl (yl_loadK (rs := [_, _, _]) (fun _ h => h ▸ hS) hF rfl rfl 1 rfl ag24 sz24 rfl rfl) ?_
  clear hF; intro a hF
  refine seq_wp (wn_none rfl) (wp_call (vs := [_]) hF rfl rfl rfl rfl cf18 (copied_any _ _ _ _ _ _ (hS.rdRo 2 rfl) (hS.rdRo 3 rfl) (by first | omega | decide | (simp only [List.length_append, List.length_cons, List.length_nil]; omega)) (by first | omega | decide | (simp only [List.length_append, List.length_cons, List.length_nil]; omega))) ?_)
  clear hF; rintro _ w ⟨v18, v19, rfl, hS1⟩ a hF
  replace hS := hS.callB hS1 rfl; clear hS1
  obtain ⟨Av18, cv18, rfl⟩ := hS.form 0 rfl
  obtain ⟨Av19, cv19, rfl⟩ := hS.form 1 rfl
  refine seq_wp (wn_none rfl) (wp_store (cs' := #[_, _, _]) hF hS rfl rfl rfl rfl 3 rfl sz24 (by simp [Value.cells, Value.oneCell']) (by simp [Value.cells]) rfl ?_)
  clear hF hS; intro a w hF hS
  refine wpList_nil ?_
  refine then_n ?_
  refine c_seq ?_
  refine c_region ?_
  refine seq_yl hF (wn_none rfl) rfl rfl (yl_fieldAddr hF rfl rfl (fun w => by kernel_rfl : ∀ w, (Instr.fieldAt 24 (.pointer (some ⟨g16, 0, none⟩)) 0).run Try.prog w = .ok (.pointer (some ⟨g16, 0, none⟩)) w)) ?_
  clear hF; intro a hF
  refine seq_yl hF (wn_none rfl) rfl rfl (yl_load (fun _ h => h ▸ hS) hF rfl rfl 3 rfl ag22 rfl) ?_
  clear hF; intro a hF
  refine seq_yl hF (wn_none rfl) rfl rfl (yl_move hF rfl rfl) ?_
  clear hF; intro a hF
  refine seq_wp (wn_none rfl) (wp_bslice (parts := [(0, .tmp 9)]) (vs := [(0, _)]) (enc := encI) (e := 3) (size := 1) (cs := #[.int .i64 (id)]) hF hS rfl rfl rfl rfl ([(id)] : List Int) (fun w => by kernel_rfl) rfl rfl rfl (by decide) ?_)
  clear hF hS; intro a w v20 hF hS
  obtain ⟨Av20, cv20, rfl⟩ := hS.form 0 rfl
  refine seq_wp (wn_none rfl) (wp_app (enc := encI) hF hS rfl rfl rfl rfl rfl 1 rfl sl22 inf3 rfl (by decide) (hS.rdRow 0 rfl) encI_one (by decide) (by first | omega | (simp only [List.length_append, List.length_cons, List.length_nil]; omega)) ?_)
  clear hF hS; intro a w v21 hF hS
  obtain ⟨Av21, cv21, rfl⟩ := hS.form 1 rfl
  refine seq_yl hF (wn_none rfl) rfl rfl (yl_fieldAddr hF rfl rfl (fun w => by kernel_rfl : ∀ w, (Instr.fieldAt 24 (.pointer (some ⟨g16, 0, none⟩)) 0).run Try.prog w = .ok (.pointer (some ⟨g16, 0, none⟩)) w)) ?_
  clear hF; intro a hF
  refine seq_wp (wn_none rfl) (wp_store (cs' := #[_, _, _]) hF hS rfl rfl rfl rfl 4 rfl sz22 (by simp [Value.cells, Value.oneCell']) (by simp [Value.cells]) rfl ?_)
  clear hF hS; intro a w hF hS
  refine wpList_nil ?_
  refine then_n ?_
  refine c_seq ?_
  refine c_region ?_
  refine seq_yl hF (wn_none rfl) rfl rfl (yl_loadK (rs := [_, _, _]) (fun _ h => h ▸ hS) hF rfl rfl 4 rfl ag24 sz24 rfl rfl) ?_
  clear hF; intro a hF
  refine seq_wp (wn_none rfl) (wp_store (cs' := #[_, _, _]) hF hS rfl rfl rfl rfl 3 rfl sz24 (by simp [Value.cells, Value.oneCell']) (by simp [Value.cells]) rfl ?_)
  clear hF hS; intro a w hF hS
  refine wpList_nil ?_
  refine then_n ?_
  refine wp_ret ?_
  refine ret_c hF rfl (resC hS rfl 3 rfl ag24 sz24) ?_
  exact ⟨_, rfl, _, _, rfl, (hS.sub [1, 2] (by decide) rfl (by simp))⟩

theorem ask2_any (vw vr : Value) (W R : List Int) (b : Bool) (id : Int) (w0 : World) (hw : Rd w0 1 vw (W).length (cells encI (W))) (hr : Rd w0 1 vr (R).length (cells encI (R))) (hW : W.length ≤ 100000) (hR : R.length ≤ 100000) :
    Fn Try.prog 15 #[.agg #[vw, vr, .bool b], .int .i64 id] w0 (fun v w' => ∃ v1 v2, v = .agg #[v1, v2, .bool b] ∧ Sat w0 w' [.row 3 1 v1 (W ++ [id]).length (cells encI (W ++ [id])), .row 3 1 v2 (R).length (cells encI (R))]) := by
  obtain ⟨Avw, cvw, rfl⟩ := Rd.form hw
  obtain ⟨Avr, cvr, rfl⟩ := Rd.form hr
  refine c_enter (N := 17) (l := [_, _]) Try.func15 rfl rfl (fun a w hF hS => ?_)
  replace hS := hS.addRo hr
  replace hS := hS.addRo hw
  refine c_seq ?_
  refine c_region ?_
  refine seq_wp (wn_none rfl) (wp_box (cs := #[_, _, _]) hF hS rfl rfl rfl rfl rfl ?_)
  clear hF hS; intro a w g22 hF hS
  refine seq_wp (wn_none rfl) (wp_alloc (cs := #[_, _, _]) hF hS rfl rfl rfl zr24 rfl ?_)
  clear hF hS; intro a w g23 hF hS
  refine wpList_nil ?_
  refine then_n ?_
  refine c_seq ?_
  refine ha_startS hS [1] 13 (by kernel_rfl) ?_; clear hS; intro w hS
  have hSS := hS.sub [1] (by decide) rfl (by simp)
  refine ha_yl 0 hF rfl rfl rfl (by kernel_rfl) (by kernel_rfl) (by kernel_rfl) (by decide) (fun _ _ _ h => h) (wn_none rfl) (.inr hSS) (yl_fieldAddr hF rfl rfl (fun w => by kernel_rfl : ∀ w, (Instr.fieldAt 24 (.pointer (some ⟨g22, 0, none⟩)) 0).run Try.prog w = .ok (.pointer (some ⟨g22, 0, none⟩)) w)) ?_
  clear hF; intro a hF
  refine ha_yl 3 hF rfl rfl rfl (by kernel_rfl) (by kernel_rfl) (by kernel_rfl) (by decide) (fun _ _ _ h => h) (wn_none rfl) (.inr hSS) (yl_move hF rfl rfl) ?_
  clear hF; intro a hF
  refine ha_yl 6 hF rfl rfl rfl (by kernel_rfl) (by kernel_rfl) (by kernel_rfl) (by decide) (fun _ _ _ h => h) (wn_none rfl) (.inr hSS) (yl_fieldAddr hF rfl rfl (fun w => by kernel_rfl : ∀ w, (Instr.fieldAt 24 (.pointer (some ⟨g22, 0, none⟩)) 1).run Try.prog w = .ok (.pointer (some ⟨g22, 1, none⟩)) w)) ?_
  clear hF; intro a hF
  refine ha_yl 9 hF rfl rfl rfl (by kernel_rfl) (by kernel_rfl) (by kernel_rfl) (by decide) (fun _ _ _ h => h) (wn_none rfl) (.inr hSS) (yl_fieldAddr hF rfl rfl (fun w => by kernel_rfl : ∀ w, (Instr.fieldAt 24 (.pointer (some ⟨g22, 0, none⟩)) 2).run Try.prog w = .ok (.pointer (some ⟨g22, 2, none⟩)) w)) ?_
  clear hF; intro a hF
  refine ha_ld 1 hF rfl rfl rfl (by kernel_rfl) (by kernel_rfl) (by kernel_rfl) (by decide) (by kernel_rfl) (by kernel_rfl) (fun _ _ _ h => h) (wn_none rfl) hSS (yl_load (fun _ h => h) hF rfl rfl 0 rfl ag22 rfl) ?_
  clear hF; intro a hF
  refine ha_ld 7 hF rfl rfl rfl (by kernel_rfl) (by kernel_rfl) (by kernel_rfl) (by decide) (by kernel_rfl) (by kernel_rfl) (fun _ _ _ h => h) (wn_none rfl) hSS (yl_load (fun _ h => h) hF rfl rfl 0 rfl ag22 rfl) ?_
  clear hF; intro a hF
  refine ha_ld 10 hF rfl rfl rfl (by kernel_rfl) (by kernel_rfl) (by kernel_rfl) (by decide) (by kernel_rfl) (by kernel_rfl) (fun _ _ _ h => h) (wn_none rfl) hSS (yl_load (fun _ h => h) hF rfl rfl 0 rfl ag4 rfl) ?_
  clear hF; intro a hF
  refine ha_all (rs := [2, 4]) (by kernel_rfl) (by simp) ?_
  refine List.forall_mem_cons.2 ⟨?_, List.forall_mem_cons.2 ⟨?_, (fun _ h => by cases h)⟩⟩
  · skip
    refine ha_op 2 rfl (wn_none rfl) (wp_app0 (enc := encI) hF hS rfl rfl rfl rfl rfl sl22 inf3 rfl (by decide) (hS.rdRo 2 rfl) encI_one (by decide) (by first | omega | (simp only [List.length_append, List.length_cons, List.length_nil]; omega)) ?_)
    clear hF hS; intro a w v24 hF hS
    obtain ⟨Av24, cv24, rfl⟩ := hS.form 0 rfl
    replace hSS := hS.sub [2] (by decide) rfl (by simp)
    refine ⟨.inr hSS, ?_⟩
    refine ha_one 4 (by kernel_rfl) rfl (wn_none rfl) (wp_bslice (parts := [(0, .tmp 8)]) (vs := [(0, _)]) (enc := encI) (e := 3) (size := 1) (cs := #[.int .i64 (id)]) hF hS rfl rfl rfl rfl ([(id)] : List Int) (fun w => by kernel_rfl) rfl rfl rfl (by decide) ?_)
    clear hF hS; intro a w v25 hF hS
    obtain ⟨Av25, cv25, rfl⟩ := hS.form 0 rfl
    replace hSS := hS.sub [3] (by decide) rfl (by simp)
    refine ⟨.inr hSS, ?_⟩
    refine ha_one 5 (by kernel_rfl) rfl (wn_none rfl) (wp_app (enc := encI) hF hS rfl rfl rfl rfl rfl 1 rfl sl22 inf3 rfl (by decide) (hS.rdRow 0 rfl) encI_one (by decide) (by first | omega | (simp only [List.length_append, List.length_cons, List.length_nil]; omega)) ?_)
    clear hF hS; intro a w v26 hF hS
    obtain ⟨Av26, cv26, rfl⟩ := hS.form 1 rfl
    replace hSS := hS.sub [3] (by decide) rfl (by simp)
    refine ⟨.inr hSS, ?_⟩
    refine ha_one 8 (by kernel_rfl) rfl (wn_none rfl) (wp_app0 (enc := encI) hF hS rfl rfl rfl rfl rfl sl22 inf3 rfl (by decide) (hS.rdRo 5 rfl) encI_one (by decide) (by first | omega | (simp only [List.length_append, List.length_cons, List.length_nil]; omega)) ?_)
    clear hF hS; intro a w v27 hF hS
    obtain ⟨Av27, cv27, rfl⟩ := hS.form 0 rfl
    replace hSS := hS.sub [4] (by decide) rfl (by simp)
    refine ⟨.inr hSS, ?_⟩
    refine ha_yl 11 hF rfl rfl rfl (by kernel_rfl) (by kernel_rfl) (by kernel_rfl) (by decide) (fun _ _ _ h => h) (wn_none rfl) (.inr hSS) (yl_build (parts := [(0, .tmp 10), (1, .tmp 13), (2, .tmp 15)]) (vs := [(0, _), (1, _), (2, _)]) (cs := [_, _, _]) hF bd24 rfl rfl rfl rfl) ?_
    clear hF; intro a hF
    refine ha_one 12 (by kernel_rfl) rfl (wn_none rfl) (wp_store (cs' := #[_, _, _]) hF hS rfl rfl rfl rfl 3 rfl sz24 (by simp [Value.cells, Value.oneCell']) (by simp [Value.cells]) rfl ?_)
    clear hF hS; intro a w hF hS
    replace hSS := hS.sub [4] (by decide) rfl (by simp)
    refine ⟨.inr hSS, ?_⟩
    refine ha_done (by kernel_rfl) ?_ _
    refine then_n ?_
    refine wp_ret ?_
    refine ret_c hF rfl (resC hS rfl 3 rfl ag24 sz24) ?_
    exact ⟨_, rfl, _, _, rfl, (hS.sub [2, 0] (by decide) rfl (by simp))⟩
  · skip
    refine ha_op 4 rfl (wn_none rfl) (wp_bslice (parts := [(0, .tmp 8)]) (vs := [(0, _)]) (enc := encI) (e := 3) (size := 1) (cs := #[.int .i64 (id)]) hF hS rfl rfl rfl rfl ([(id)] : List Int) (fun w => by kernel_rfl) rfl rfl rfl (by decide) ?_)
    clear hF hS; intro a w v28 hF hS
    obtain ⟨Av28, cv28, rfl⟩ := hS.form 0 rfl
    replace hSS := hS.sub [2] (by decide) rfl (by simp)
    refine ⟨.inr hSS, ?_⟩
    refine ha_one 2 (by kernel_rfl) rfl (wn_none rfl) (wp_app0 (enc := encI) hF hS rfl rfl rfl rfl rfl sl22 inf3 rfl (by decide) (hS.rdRo 3 rfl) encI_one (by decide) (by first | omega | (simp only [List.length_append, List.length_cons, List.length_nil]; omega)) ?_)
    clear hF hS; intro a w v29 hF hS
    obtain ⟨Av29, cv29, rfl⟩ := hS.form 0 rfl
    replace hSS := hS.sub [3] (by decide) rfl (by simp)
    refine ⟨.inr hSS, ?_⟩
    refine ha_one 5 (by kernel_rfl) rfl (wn_none rfl) (wp_app (enc := encI) hF hS rfl rfl rfl rfl rfl 0 rfl sl22 inf3 rfl (by decide) (hS.rdRow 1 rfl) encI_one (by decide) (by first | omega | (simp only [List.length_append, List.length_cons, List.length_nil]; omega)) ?_)
    clear hF hS; intro a w v30 hF hS
    obtain ⟨Av30, cv30, rfl⟩ := hS.form 0 rfl
    replace hSS := hS.sub [3] (by decide) rfl (by simp)
    refine ⟨.inr hSS, ?_⟩
    refine ha_one 8 (by kernel_rfl) rfl (wn_none rfl) (wp_app0 (enc := encI) hF hS rfl rfl rfl rfl rfl sl22 inf3 rfl (by decide) (hS.rdRo 5 rfl) encI_one (by decide) (by first | omega | (simp only [List.length_append, List.length_cons, List.length_nil]; omega)) ?_)
    clear hF hS; intro a w v31 hF hS
    obtain ⟨Av31, cv31, rfl⟩ := hS.form 0 rfl
    replace hSS := hS.sub [4] (by decide) rfl (by simp)
    refine ⟨.inr hSS, ?_⟩
    refine ha_yl 11 hF rfl rfl rfl (by kernel_rfl) (by kernel_rfl) (by kernel_rfl) (by decide) (fun _ _ _ h => h) (wn_none rfl) (.inr hSS) (yl_build (parts := [(0, .tmp 10), (1, .tmp 13), (2, .tmp 15)]) (vs := [(0, _), (1, _), (2, _)]) (cs := [_, _, _]) hF bd24 rfl rfl rfl rfl) ?_
    clear hF; intro a hF
    refine ha_one 12 (by kernel_rfl) rfl (wn_none rfl) (wp_store (cs' := #[_, _, _]) hF hS rfl rfl rfl rfl 3 rfl sz24 (by simp [Value.cells, Value.oneCell']) (by simp [Value.cells]) rfl ?_)
    clear hF hS; intro a w hF hS
    replace hSS := hS.sub [4] (by decide) rfl (by simp)
    refine ⟨.inr hSS, ?_⟩
    refine ha_done (by kernel_rfl) ?_ _
    refine then_n ?_
    refine wp_ret ?_
    refine ret_c hF rfl (resC hS rfl 3 rfl ag24 sz24) ?_
    exact ⟨_, rfl, _, _, rfl, (hS.sub [1, 0] (by decide) rfl (by simp))⟩

end Go.Proofs.Ytglooclndbfhgaa

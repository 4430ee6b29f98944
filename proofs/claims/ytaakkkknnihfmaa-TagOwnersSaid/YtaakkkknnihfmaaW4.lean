/- walks, printed by wip/gen -/
import Derived.Test.YtaakkkknnihfmaaW3
namespace Go.Proofs.Ytaakkkknnihfmaa
open Go.RowKit
set_option linter.unusedVariables false
set_option linter.unusedSimpArgs false

set_option maxRecDepth 100000 in
theorem withN (v : Value) (L : List Int) (r c : Int) (w0 : World) (hv : Rd w0 1 v (L).length (cells encI (L))) (hL : L.length ≤ 1000000) :
    Fn Try.prog 28 #[.agg #[v, .int .i64 r, .int .i64 c], .int .i64 (-1), .int .i64 0] w0 (fun v w' => ∃ v1, v = .agg #[v1, .int .i64 r, .int .i64 c] ∧ Sat w0 w' [.row 3 1 v1 (L).length (cells encI (L))]) := by
  obtain ⟨Av, cv, rfl⟩ := Rd.form hv
  refine c_enter (N := 19) (l := [_, _, _]) Try.func28 rfl rfl (fun a w hF hS => ?_)
  replace hS := hS.addRo hv
  refine c_seq ?_
  refine c_region ?_
  refine seq_wp (wn_none rfl) (wp_box (cs := #[_, _, _]) hF hS rfl rfl rfl rfl rfl ?_)
  clear hF hS; intro a w g68 hF hS
  refine seq_wp (wn_none rfl) (wp_alloc (cs := #[_, _, _]) hF hS rfl rfl rfl zr24 rfl ?_)
  clear hF hS; intro a w g69 hF hS
  refine wpList_nil ?_
  refine then_n ?_
  refine c_seq ?_
  refine c_region ?_
  refine seq_yl hF (wn_none rfl) rfl rfl (yl_fieldAddr hF rfl rfl (fun w => by kernel_rfl : ∀ w, (Instr.fieldAt 24 (.pointer (some ⟨g68, 0, none⟩)) 0).run Try.prog w = .ok (.pointer (some ⟨g68, 0, none⟩)) w)) ?_
  clear hF; intro a hF
  refine seq_yl hF (wn_none rfl) rfl rfl (yl_load (fun _ h => h ▸ hS) hF rfl rfl 1 rfl ag22 rfl) ?_
  clear hF; intro a hF
  refine seq_wp (wn_none rfl) (wp_app0 (enc := encI) hF hS rfl rfl rfl rfl rfl sl22 inf3 rfl (by decide) (hS.rdRo 2 rfl) encI_one (by decide) (by first | omega | (simp only [List.length_append, List.length_cons, List.length_nil]; omega) | (simp; omega)) ?_)
  clear hF hS; intro a w v70 hF hS
  obtain ⟨Av70, cv70, rfl⟩ := hS.form 0 rfl
  refine seq_yl hF (wn_none rfl) rfl rfl (yl_fieldAddr hF rfl rfl (fun w => by kernel_rfl : ∀ w, (Instr.fieldAt 24 (.pointer (some ⟨g68, 0, none⟩)) 0).run Try.prog w = .ok (.pointer (some ⟨g68, 0, none⟩)) w)) ?_
  clear hF; intro a hF
  refine seq_wp (wn_none rfl) (wp_store (cs' := #[_, _, _]) hF hS rfl rfl rfl rfl 2 rfl sz22 (by simp [Value.cells, Value.oneCell']) (by simp [Value.cells]) rfl ?_)
  clear hF hS; intro a w hF hS
  refine wpList_nil ?_
  refine then_n ?_
  refine c_seq ?_
  refine c_seq ?_
  refine c_region ?_
  refine seq_yl hF (wn_none rfl) rfl rfl (yl_move hF rfl rfl) ?_
  clear hF; intro a hF
  refine seq_yl hF (wn_none rfl) rfl rfl (yl_bin hF rfl rfl rfl rfl (fun _ => run_geq)) ?_
  clear hF; intro a hF
  replace hF := fr_set (b' := false) hF (by decide)
  refine wpList_nil ?_
  refine then_n ?_
  refine c_cond_f hF rfl ?_
  refine wp_skip ?_
  refine then_n ?_
  refine c_seq ?_
  refine c_region ?_
  refine seq_yl hF (wn_none rfl) rfl rfl (yl_loadK (rs := [_, _, _]) (fun _ h => h ▸ hS) hF rfl rfl 2 rfl ag24 sz24 rfl rfl) ?_
  clear hF; intro a hF
  refine seq_wp (wn_none rfl) (wp_store (cs' := #[_, _, _]) hF hS rfl rfl rfl rfl 1 rfl sz24 (by simp [Value.cells, Value.oneCell']) (by simp [Value.cells]) rfl ?_)
  clear hF hS; intro a w hF hS
  refine wpList_nil ?_
  refine then_n ?_
  refine wp_ret ?_
  refine ret_c hF rfl (resC hS rfl 1 rfl ag24 sz24) ?_
  exact ⟨_, rfl, _, rfl, (hS.sub [0] (by decide) (by first | rfl | simp) (by simp))⟩

set_option maxRecDepth 100000 in
theorem withK (v : Value) (L : List Int) (r c t : Int) (k : Nat) (hk : k < L.length) (w0 : World) (hv : Rd w0 1 v (L).length (cells encI (L))) (hL : L.length ≤ 1000000) :
    Fn Try.prog 28 #[.agg #[v, .int .i64 r, .int .i64 c], .int .i64 ((k : Nat) : Int), .int .i64 t] w0 (fun v w' => ∃ v1, v = .agg #[v1, .int .i64 r, .int .i64 c] ∧ Sat w0 w' [.row 3 1 v1 (L.set k t).length (cells encI (L.set k t))]) := by
  obtain ⟨Av, cv, rfl⟩ := Rd.form hv
  refine c_enter (N := 19) (l := [_, _, _]) Try.func28 rfl rfl (fun a w hF hS => ?_)
  replace hS := hS.addRo hv
  refine c_seq ?_
  refine c_region ?_
  refine seq_wp (wn_none rfl) (wp_box (cs := #[_, _, _]) hF hS rfl rfl rfl rfl rfl ?_)
  clear hF hS; intro a w g71 hF hS
  refine seq_wp (wn_none rfl) (wp_alloc (cs := #[_, _, _]) hF hS rfl rfl rfl zr24 rfl ?_)
  clear hF hS; intro a w g72 hF hS
  refine wpList_nil ?_
  refine then_n ?_
  refine c_seq ?_
  refine c_region ?_
  refine seq_yl hF (wn_none rfl) rfl rfl (yl_fieldAddr hF rfl rfl (fun w => by kernel_rfl : ∀ w, (Instr.fieldAt 24 (.pointer (some ⟨g71, 0, none⟩)) 0).run Try.prog w = .ok (.pointer (some ⟨g71, 0, none⟩)) w)) ?_
  clear hF; intro a hF
  refine seq_yl hF (wn_none rfl) rfl rfl (yl_load (fun _ h => h ▸ hS) hF rfl rfl 1 rfl ag22 rfl) ?_
  clear hF; intro a hF
  refine seq_wp (wn_none rfl) (wp_app0 (enc := encI) hF hS rfl rfl rfl rfl rfl sl22 inf3 rfl (by decide) (hS.rdRo 2 rfl) encI_one (by decide) (by first | omega | (simp only [List.length_append, List.length_cons, List.length_nil]; omega) | (simp; omega)) ?_)
  clear hF hS; intro a w v73 hF hS
  obtain ⟨Av73, cv73, rfl⟩ := hS.form 0 rfl
  refine seq_yl hF (wn_none rfl) rfl rfl (yl_fieldAddr hF rfl rfl (fun w => by kernel_rfl : ∀ w, (Instr.fieldAt 24 (.pointer (some ⟨g71, 0, none⟩)) 0).run Try.prog w = .ok (.pointer (some ⟨g71, 0, none⟩)) w)) ?_
  clear hF; intro a hF
  refine seq_wp (wn_none rfl) (wp_store (cs' := #[_, _, _]) hF hS rfl rfl rfl rfl 2 rfl sz22 (by simp [Value.cells, Value.oneCell']) (by simp [Value.cells]) rfl ?_)
  clear hF hS; intro a w hF hS
  refine wpList_nil ?_
  refine then_n ?_
  refine c_seq ?_
  refine c_seq ?_
  refine c_region ?_
  refine seq_yl hF (wn_none rfl) rfl rfl (yl_move hF rfl rfl) ?_
  clear hF; intro a hF
  refine seq_yl hF (wn_none rfl) rfl rfl (yl_bin hF rfl rfl rfl rfl (fun _ => run_geq)) ?_
  clear hF; intro a hF
  replace hF := fr_set (b' := true) hF (by rw [decide_eq_true_eq]; omega)
  refine wpList_nil ?_
  refine then_n ?_
  refine c_cond_t hF rfl ?_
  refine c_region ?_
  refine seq_yl hF (wn_none rfl) rfl rfl (yl_fieldAddr hF rfl rfl (fun w => by kernel_rfl : ∀ w, (Instr.fieldAt 24 (.pointer (some ⟨g71, 0, none⟩)) 0).run Try.prog w = .ok (.pointer (some ⟨g71, 0, none⟩)) w)) ?_
  clear hF; intro a hF
  refine seq_yl hF (wn_none rfl) rfl rfl (yl_load (fun _ h => h ▸ hS) hF rfl rfl 2 rfl ag22 rfl) ?_
  clear hF; intro a hF
  refine seq_yl hF (wn_none rfl) rfl rfl (yl_move hF rfl rfl) ?_
  clear hF; intro a hF
  refine seq_yl hF (wn_none rfl) rfl rfl (yl_move hF rfl rfl) ?_
  clear hF; intro a hF
  have hlt_hx74 : k < (L).length := by first | omega | (simp; done) | (simp; omega)
  obtain ⟨ad75, rfl⟩ := rd_some (hS.rdRow 0 rfl) hlt_hx74
  obtain ⟨x74, hx74⟩ := get_some hlt_hx74
  refine seq_yl hF (wn_none rfl) rfl rfl (yl_indexAddr hF rfl rfl rfl (fun _ => run_idx' sl22 sz3 (hS.rdRow 0 rfl) hlt_hx74)) ?_
  clear hF; intro a hF
  refine seq_wp (wn_none rfl) (wp_storeAt0 (enc := encI) (z' := (t)) hF hS rfl rfl rfl rfl 0 rfl sz3 (by simp [Value.cells, Value.oneCell']) encI_len hx74 (by simp [Value.cells]) rfl ?_)
  clear hF hS; intro a w hF hS
  have hlt_hx76 : k < (L.set k (t)).length := by simpa using hlt_hx74
  obtain ⟨x76, hx76, hex76⟩ : ∃ x, (L.set k (t))[k]? = some x ∧ x = (t) := ⟨_, List.getElem?_set_self hlt_hx74, rfl⟩
  refine wpList_nil ?_
  refine then_n ?_
  refine c_seq ?_
  refine c_region ?_
  refine seq_yl hF (wn_none rfl) rfl rfl (yl_loadK (rs := [_, _, _]) (fun _ h => h ▸ hS) hF rfl rfl 2 rfl ag24 sz24 rfl rfl) ?_
  clear hF; intro a hF
  refine seq_wp (wn_none rfl) (wp_store (cs' := #[_, _, _]) hF hS rfl rfl rfl rfl 1 rfl sz24 (by simp [Value.cells, Value.oneCell']) (by simp [Value.cells]) rfl ?_)
  clear hF hS; intro a w hF hS
  refine wpList_nil ?_
  refine then_n ?_
  refine wp_ret ?_
  refine ret_c hF rfl (resC hS rfl 1 rfl ag24 sz24) ?_
  exact ⟨_, rfl, _, rfl, (hS.sub [0] (by decide) (by first | rfl | simp) (by simp))⟩

set_option maxHeartbeats 1000000 in
set_option maxRecDepth 100000 in
theorem get1 (v : Value) (L : List Int) (r c t : Int) (u : Bool) (w0 : World) (hv : Rd w0 1 v (L).length (cells encI (L))) (hL : L.length ≤ 1000000) :
    Fn Try.prog 9 #[.agg #[v, .int .i64 r, .int .i64 c], .int .i64 t, .bool u] w0 (fun v w' => ∃ (v1 : Value) (L1 : List Int) (k : Int) (b : Bool), v = .tuple #[.agg #[v1, .int .i64 r, .int .i64 c], .int .i64 k, .bool b] ∧ getF L r c t u = (L1, k, b) ∧ Sat w0 w' [.row 3 1 v1 (L1).length (cells encI (L1))]) := by
  obtain ⟨Av, cv, rfl⟩ := Rd.form hv
  refine c_enter (N := 53) (l := [_, _, _]) Try.func9 rfl rfl (fun a w hF hS => ?_)
  replace hS := hS.addRo hv
  refine c_seq ?_
  refine c_region ?_
  refine seq_wp (wn_none rfl) (wp_box (cs := #[_, _, _]) hF hS rfl rfl rfl rfl rfl ?_)
  clear hF hS; intro a w g77 hF hS
  refine seq_wp (wn_none rfl) (wp_alloc (cs := #[_, _, _]) hF hS rfl rfl rfl zr24 rfl ?_)
  clear hF hS; intro a w g78 hF hS
  refine seq_yl hF (wn_none rfl) rfl rfl (yl_assign hF rfl rfl) ?_
  clear hF; intro a hF
  refine seq_yl hF (wn_none rfl) rfl rfl (yl_assign hF rfl rfl) ?_
  clear hF; intro a hF
  refine wpList_nil ?_
  refine then_n ?_
  refine c_seq ?_
  refine c_region ?_
  refine seq_yl hF (wn_none rfl) rfl rfl (yl_fieldAddr hF rfl rfl (fun w => by kernel_rfl : ∀ w, (Instr.fieldAt 24 (.pointer (some ⟨g77, 0, none⟩)) 0).run Try.prog w = .ok (.pointer (some ⟨g77, 0, none⟩)) w)) ?_
  clear hF; intro a hF
  refine seq_yl hF (wn_none rfl) rfl rfl (yl_load (fun _ h => h ▸ hS) hF rfl rfl 1 rfl ag22 rfl) ?_
  clear hF; intro a hF
  refine seq_wp (wn_none rfl) (wp_call (vs := [_]) hF rfl rfl rfl rfl cf23 (clone_any _ _ _ (hS.rdRo 2 rfl) (by first | omega | (simp; done) | (simp; omega))) ?_)
  clear hF; rintro _ w ⟨v79, rfl, hS1⟩ a hF
  replace hS := hS.callB hS1 rfl; clear hS1
  obtain ⟨Av79, cv79, rfl⟩ := hS.form 0 rfl
  refine seq_yl hF (wn_none rfl) rfl rfl (yl_fieldAddr hF rfl rfl (fun w => by kernel_rfl : ∀ w, (Instr.fieldAt 24 (.pointer (some ⟨g77, 0, none⟩)) 0).run Try.prog w = .ok (.pointer (some ⟨g77, 0, none⟩)) w)) ?_
  clear hF; intro a hF
  refine seq_wp (wn_none rfl) (wp_store (cs' := #[_, _, _]) hF hS rfl rfl rfl rfl 2 rfl sz22 (by simp [Value.cells, Value.oneCell']) (by simp [Value.cells]) rfl ?_)
  clear hF hS; intro a w hF hS
  refine wpList_nil ?_
  refine then_n ?_
  refine c_seq ?_
  refine c_region ?_
  refine seq_yl hF (wn_none rfl) rfl rfl (yl_loadK (rs := [_, _, _]) (fun _ h => h ▸ hS) hF rfl rfl 2 rfl ag24 sz24 rfl rfl) ?_
  clear hF; intro a hF
  have hc80 := count_in L (r) (c) (-1)
  refine seq_wp (wn_none rfl) (wp_call (vs := [_]) hF rfl rfl rfl rfl cf10 (free1 _ L (r) (c) _ (hS.rdRow 0 rfl) (by first | omega | (simp; done) | (simp; omega))) ?_)
  clear hF; rintro _ w ⟨rfl, hS1⟩ a hF
  replace hS := hS.callB hS1 rfl; clear hS1
  refine seq_yl hF (wn_none rfl) rfl rfl (yl_assign hF rfl rfl) ?_
  clear hF; intro a hF
  refine wpList_nil ?_
  refine then_n ?_
  refine c_seq ?_
  refine c_seq ?_
  refine ha_startS hS [2] 25 (by kernel_rfl) ?_; clear hS; intro w hS
  have hSS := hS.sub [2] (by decide) rfl (by simp)
  refine ha_y 0 hF rfl rfl rfl (wn_none rfl) (.inr hSS) (yl_move hF rfl rfl) ?_
  clear hF; intro a hF
  refine ha_one 1 (by kernel_rfl) rfl (wn_none rfl) (wp_call (vs := [_]) hF rfl rfl rfl rfl cf24 (owner_any (t) _) ?_)
  clear hF; rintro _ w ⟨rfl, hS1⟩ a hF
  replace hS := hS.callB hS1 rfl; clear hS1
  replace hSS := hS.sub [2] (by decide) rfl (by simp)
  refine ⟨.inr hSS, ?_⟩
  refine ha_y 2 hF rfl rfl rfl (wn_none rfl) (.inr hSS) (yl_un hF rfl rfl (fun _ => run_not)) ?_
  clear hF; intro a hF
  refine ha_y 3 hF rfl rfl rfl (wn_none rfl) (.inr hSS) (yl_move hF rfl rfl) ?_
  clear hF; intro a hF
  refine fr_split hF (fun hc81 hF => ?_) (fun hc81 hF => ?_)
  · first | (replace hc81 := of_decide_eq_true hc81) | (replace hc81 := of_decide_eq_false (bnot_t hc81)) | (replace hc81 := bnot_t hc81) | skip
    refine ha_s 4 hF rfl rfl rfl (wn_f hF rfl rfl rfl rfl) (.inr hSS) ?_
    clear hF; intro a hF
    refine ha_s 5 hF rfl rfl rfl (wn_f hF rfl rfl rfl rfl) (.inr hSS) ?_
    clear hF; intro a hF
    refine ha_y 6 hF rfl rfl rfl (wn_none rfl) (.inr hSS) (yl_pick (u := _) (v := undef) hF rfl rfl (fun _ => rfl) (fun h => by cases h)) ?_
    clear hF; intro a hF
    refine ha_y 7 hF rfl rfl rfl (wn_none rfl) (.inr hSS) (yl_move hF rfl rfl) ?_
    clear hF; intro a hF
    refine ha_s 8 hF rfl rfl rfl (wn_f hF rfl rfl rfl rfl) (.inr hSS) ?_
    clear hF; intro a hF
    refine ha_s 9 hF rfl rfl rfl (wn_f hF rfl rfl rfl rfl) (.inr hSS) ?_
    clear hF; intro a hF
    refine ha_s 10 hF rfl rfl rfl (wn_f hF rfl rfl rfl rfl) (.inr hSS) ?_
    clear hF; intro a hF
    refine ha_s 11 hF rfl rfl rfl (wn_u hF rfl rfl rfl rfl) (.inr hSS) ?_
    clear hF; intro a hF
    refine ha_s 12 hF rfl rfl rfl (wn_u hF rfl rfl rfl rfl) (.inr hSS) ?_
    clear hF; intro a hF
    refine ha_s 13 hF rfl rfl rfl (wn_u hF rfl rfl rfl rfl) (.inr hSS) ?_
    clear hF; intro a hF
    refine ha_s 14 hF rfl rfl rfl (wn_u hF rfl rfl rfl rfl) (.inr hSS) ?_
    clear hF; intro a hF
    refine ha_s 15 hF rfl rfl rfl (wn_u hF rfl rfl rfl rfl) (.inr hSS) ?_
    clear hF; intro a hF
    refine ha_s 16 hF rfl rfl rfl (wn_u hF rfl rfl rfl rfl) (.inr hSS) ?_
    clear hF; intro a hF
    refine ha_s 17 hF rfl rfl rfl (wn_u hF rfl rfl rfl rfl) (.inr hSS) ?_
    clear hF; intro a hF
    refine ha_s 18 hF rfl rfl rfl (wn_u hF rfl rfl rfl rfl) (.inr hSS) ?_
    clear hF; intro a hF
    refine ha_s 19 hF rfl rfl rfl (wn_u hF rfl rfl rfl rfl) (.inr hSS) ?_
    clear hF; intro a hF
    refine ha_s 20 hF rfl rfl rfl (wn_u hF rfl rfl rfl rfl) (.inr hSS) ?_
    clear hF; intro a hF
    refine ha_s 21 hF rfl rfl rfl (wn_u hF rfl rfl rfl rfl) (.inr hSS) ?_
    clear hF; intro a hF
    refine ha_s 22 hF rfl rfl rfl (wn_u hF rfl rfl rfl rfl) (.inr hSS) ?_
    clear hF; intro a hF
    refine ha_s 23 hF rfl rfl rfl (wn_f hF rfl rfl rfl rfl) (.inr hSS) ?_
    clear hF; intro a hF
    refine ha_y 24 hF rfl rfl rfl (wn_none rfl) (.inr hSS) (yl_pick (u := _) (v := undef) hF rfl rfl (fun _ => rfl) (fun h => by cases h)) ?_
    clear hF; intro a hF
    refine ha_done (by kernel_rfl) ?_ _
    refine then_n ?_
    refine c_cond_t hF rfl ?_
    refine c_seq ?_
    refine c_region ?_
    refine seq_yl hF (wn_none rfl) rfl rfl (yl_loadK (rs := [_, _, _]) (fun _ h => h ▸ hS) hF rfl rfl 2 rfl ag24 sz24 rfl rfl) ?_
    clear hF; intro a hF
    refine seq_wp (wn_none rfl) (wp_store (cs' := #[_, _, _]) hF hS rfl rfl rfl rfl 1 rfl sz24 (by simp [Value.cells, Value.oneCell']) (by simp [Value.cells]) rfl ?_)
    clear hF hS; intro a w hF hS
    refine seq_yl hF (wn_none rfl) rfl rfl (yl_assign hF rfl rfl) ?_
    clear hF; intro a hF
    refine seq_yl hF (wn_none rfl) rfl rfl (yl_assign hF rfl rfl) ?_
    clear hF; intro a hF
    refine wpList_nil ?_
    refine then_n ?_
    refine wp_ret ?_
    refine then_r ?_
    refine ret_ctt hF rfl (resC hS rfl 1 rfl ag24 sz24) rfl rfl ?_
    exact ⟨_, rfl, _, _, _, _, rfl, get_no (by first | exact .inl (by omega) | exact .inr (.inl (by omega)) | exact .inr (.inr ⟨by assumption, by omega⟩) | exact .inr (.inl (count_no (by assumption)))), (hS.sub [0] (by decide) (by first | rfl | simp) (by simp))⟩
  · first | (replace hc81 := of_decide_eq_false hc81) | (replace hc81 := of_decide_eq_true (bnot_f hc81)) | (replace hc81 := bnot_f hc81) | skip
    refine ha_y 4 hF rfl rfl rfl (wn_t hF rfl rfl rfl rfl) (.inr hSS) (yl_move hF rfl rfl) ?_
    clear hF; intro a hF
    refine ha_y 5 hF rfl rfl rfl (wn_t hF rfl rfl rfl rfl) (.inr hSS) (yl_bin hF rfl rfl rfl rfl (fun _ => run_eql)) ?_
    clear hF; intro a hF
    refine ha_y 6 hF rfl rfl rfl (wn_none rfl) (.inr hSS) (yl_pick (u := _) (v := undef) hF rfl rfl (fun h => by cases h) (fun _ => rfl)) ?_
    clear hF; intro a hF
    refine ha_y 7 hF rfl rfl rfl (wn_none rfl) (.inr hSS) (yl_move hF rfl rfl) ?_
    clear hF; intro a hF
    refine fr_split hF (fun hc82 hF => ?_) (fun hc82 hF => ?_)
    · first | (replace hc82 := of_decide_eq_true hc82) | (replace hc82 := of_decide_eq_false (bnot_t hc82)) | (replace hc82 := bnot_t hc82) | skip
      refine ha_s 8 hF rfl rfl rfl (wn_f hF rfl rfl rfl rfl) (.inr hSS) ?_
      clear hF; intro a hF
      refine ha_s 9 hF rfl rfl rfl (wn_f hF rfl rfl rfl rfl) (.inr hSS) ?_
      clear hF; intro a hF
      refine ha_s 10 hF rfl rfl rfl (wn_f hF rfl rfl rfl rfl) (.inr hSS) ?_
      clear hF; intro a hF
      refine ha_s 11 hF rfl rfl rfl (wn_u hF rfl rfl rfl rfl) (.inr hSS) ?_
      clear hF; intro a hF
      refine ha_s 12 hF rfl rfl rfl (wn_u hF rfl rfl rfl rfl) (.inr hSS) ?_
      clear hF; intro a hF
      refine ha_s 13 hF rfl rfl rfl (wn_u hF rfl rfl rfl rfl) (.inr hSS) ?_
      clear hF; intro a hF
      refine ha_s 14 hF rfl rfl rfl (wn_u hF rfl rfl rfl rfl) (.inr hSS) ?_
      clear hF; intro a hF
      refine ha_s 15 hF rfl rfl rfl (wn_u hF rfl rfl rfl rfl) (.inr hSS) ?_
      clear hF; intro a hF
      refine ha_s 16 hF rfl rfl rfl (wn_u hF rfl rfl rfl rfl) (.inr hSS) ?_
      clear hF; intro a hF
      refine ha_s 17 hF rfl rfl rfl (wn_u hF rfl rfl rfl rfl) (.inr hSS) ?_
      clear hF; intro a hF
      refine ha_s 18 hF rfl rfl rfl (wn_u hF rfl rfl rfl rfl) (.inr hSS) ?_
      clear hF; intro a hF
      refine ha_s 19 hF rfl rfl rfl (wn_u hF rfl rfl rfl rfl) (.inr hSS) ?_
      clear hF; intro a hF
      refine ha_s 20 hF rfl rfl rfl (wn_u hF rfl rfl rfl rfl) (.inr hSS) ?_
      clear hF; intro a hF
      refine ha_s 21 hF rfl rfl rfl (wn_u hF rfl rfl rfl rfl) (.inr hSS) ?_
      clear hF; intro a hF
      refine ha_s 22 hF rfl rfl rfl (wn_u hF rfl rfl rfl rfl) (.inr hSS) ?_
      clear hF; intro a hF
      refine ha_s 23 hF rfl rfl rfl (wn_f hF rfl rfl rfl rfl) (.inr hSS) ?_
      clear hF; intro a hF
      refine ha_y 24 hF rfl rfl rfl (wn_none rfl) (.inr hSS) (yl_pick (u := _) (v := undef) hF rfl rfl (fun _ => rfl) (fun h => by cases h)) ?_
      clear hF; intro a hF
      refine ha_done (by kernel_rfl) ?_ _
      refine then_n ?_
      refine c_cond_t hF rfl ?_
      refine c_seq ?_
      refine c_region ?_
      refine seq_yl hF (wn_none rfl) rfl rfl (yl_loadK (rs := [_, _, _]) (fun _ h => h ▸ hS) hF rfl rfl 2 rfl ag24 sz24 rfl rfl) ?_
      clear hF; intro a hF
      refine seq_wp (wn_none rfl) (wp_store (cs' := #[_, _, _]) hF hS rfl rfl rfl rfl 1 rfl sz24 (by simp [Value.cells, Value.oneCell']) (by simp [Value.cells]) rfl ?_)
      clear hF hS; intro a w hF hS
      refine seq_yl hF (wn_none rfl) rfl rfl (yl_assign hF rfl rfl) ?_
      clear hF; intro a hF
      refine seq_yl hF (wn_none rfl) rfl rfl (yl_assign hF rfl rfl) ?_
      clear hF; intro a hF
      refine wpList_nil ?_
      refine then_n ?_
      refine wp_ret ?_
      refine then_r ?_
      refine ret_ctt hF rfl (resC hS rfl 1 rfl ag24 sz24) rfl rfl ?_
      exact ⟨_, rfl, _, _, _, _, rfl, get_no (by first | exact .inl (by omega) | exact .inr (.inl (by omega)) | exact .inr (.inr ⟨by assumption, by omega⟩) | exact .inr (.inl (count_no (by assumption)))), (hS.sub [0] (by decide) (by first | rfl | simp) (by simp))⟩
    · first | (replace hc82 := of_decide_eq_false hc82) | (replace hc82 := of_decide_eq_true (bnot_f hc82)) | (replace hc82 := bnot_f hc82) | skip
      refine ha_y 8 hF rfl rfl rfl (wn_t hF rfl rfl rfl rfl) (.inr hSS) (yl_move hF rfl rfl) ?_
      clear hF; intro a hF
      refine ha_y 9 hF rfl rfl rfl (wn_t hF rfl rfl rfl rfl) (.inr hSS) (yl_un hF rfl rfl (fun _ => run_not)) ?_
      clear hF; intro a hF
      refine ha_y 10 hF rfl rfl rfl (wn_t hF rfl rfl rfl rfl) (.inr hSS) (yl_move hF rfl rfl) ?_
      clear hF; intro a hF
      refine fr_split hF (fun hc83 hF => ?_) (fun hc83 hF => ?_)
      · first | (replace hc83 := of_decide_eq_true hc83) | (replace hc83 := of_decide_eq_false (bnot_t hc83)) | (replace hc83 := bnot_t hc83) | skip
        refine ha_y 11 hF rfl rfl rfl (wn_t hF rfl rfl rfl rfl) (.inr hSS) (yl_move hF rfl rfl) ?_
        clear hF; intro a hF
        refine ha_y 12 hF rfl rfl rfl (wn_t hF rfl rfl rfl rfl) (.inr hSS) (yl_fieldAddr hF rfl rfl (fun w => by kernel_rfl : ∀ w, (Instr.fieldAt 24 (.pointer (some ⟨g77, 0, none⟩)) 1).run Try.prog w = .ok (.pointer (some ⟨g77, 1, none⟩)) w)) ?_
        clear hF; intro a hF
        refine ha_l 13 hF rfl rfl rfl (wn_t hF rfl rfl rfl rfl) hSS (yl_load (fun _ h => h) hF rfl rfl 0 rfl ag3 rfl) ?_
        clear hF; intro a hF
        refine ha_y 14 hF rfl rfl rfl (wn_t hF rfl rfl rfl rfl) (.inr hSS) (yl_bin hF rfl rfl rfl rfl (fun _ => run_leq)) ?_
        clear hF; intro a hF
        refine ha_y 15 hF rfl rfl rfl (wn_t hF rfl rfl rfl rfl) (.inr hSS) (yl_move hF rfl rfl) ?_
        clear hF; intro a hF
        refine fr_split hF (fun hc84 hF => ?_) (fun hc84 hF => ?_)
        · first | (replace hc84 := of_decide_eq_true hc84) | (replace hc84 := of_decide_eq_false (bnot_t hc84)) | (replace hc84 := bnot_t hc84) | skip
          refine ha_s 16 hF rfl rfl rfl (wn_f hF rfl rfl rfl rfl) (.inr hSS) ?_
          clear hF; intro a hF
          refine ha_s 17 hF rfl rfl rfl (wn_f hF rfl rfl rfl rfl) (.inr hSS) ?_
          clear hF; intro a hF
          refine ha_s 18 hF rfl rfl rfl (wn_f hF rfl rfl rfl rfl) (.inr hSS) ?_
          clear hF; intro a hF
          refine ha_s 19 hF rfl rfl rfl (wn_f hF rfl rfl rfl rfl) (.inr hSS) ?_
          clear hF; intro a hF
          refine ha_s 20 hF rfl rfl rfl (wn_f hF rfl rfl rfl rfl) (.inr hSS) ?_
          clear hF; intro a hF
          refine ha_s 21 hF rfl rfl rfl (wn_f hF rfl rfl rfl rfl) (.inr hSS) ?_
          clear hF; intro a hF
          refine ha_y 22 hF rfl rfl rfl (wn_t hF rfl rfl rfl rfl) (.inr hSS) (yl_pick (u := _) (v := undef) hF rfl rfl (fun _ => rfl) (fun h => by cases h)) ?_
          clear hF; intro a hF
          refine ha_y 23 hF rfl rfl rfl (wn_t hF rfl rfl rfl rfl) (.inr hSS) (yl_pick (u := _) (v := undef) hF rfl rfl (fun _ => rfl) (fun h => by cases h)) ?_
          clear hF; intro a hF
          refine ha_y 24 hF rfl rfl rfl (wn_none rfl) (.inr hSS) (yl_pick (u := _) (v := undef) hF rfl rfl (fun h => by cases h) (fun _ => rfl)) ?_
          clear hF; intro a hF
          refine ha_done (by kernel_rfl) ?_ _
          refine then_n ?_
          refine c_cond_t hF rfl ?_
          refine c_seq ?_
          refine c_region ?_
          refine seq_yl hF (wn_none rfl) rfl rfl (yl_loadK (rs := [_, _, _]) (fun _ h => h ▸ hS) hF rfl rfl 2 rfl ag24 sz24 rfl rfl) ?_
          clear hF; intro a hF
          refine seq_wp (wn_none rfl) (wp_store (cs' := #[_, _, _]) hF hS rfl rfl rfl rfl 1 rfl sz24 (by simp [Value.cells, Value.oneCell']) (by simp [Value.cells]) rfl ?_)
          clear hF hS; intro a w hF hS
          refine seq_yl hF (wn_none rfl) rfl rfl (yl_assign hF rfl rfl) ?_
          clear hF; intro a hF
          refine seq_yl hF (wn_none rfl) rfl rfl (yl_assign hF rfl rfl) ?_
          clear hF; intro a hF
          refine wpList_nil ?_
          refine then_n ?_
          refine wp_ret ?_
          refine then_r ?_
          refine ret_ctt hF rfl (resC hS rfl 1 rfl ag24 sz24) rfl rfl ?_
          exact ⟨_, rfl, _, _, _, _, rfl, get_no (by first | exact .inl (by omega) | exact .inr (.inl (by omega)) | exact .inr (.inr ⟨by assumption, by omega⟩) | exact .inr (.inl (count_no (by assumption)))), (hS.sub [0] (by decide) (by first | rfl | simp) (by simp))⟩
        · first | (replace hc84 := of_decide_eq_false hc84) | (replace hc84 := of_decide_eq_true (bnot_f hc84)) | (replace hc84 := bnot_f hc84) | skip
          refine ha_y 17 hF rfl rfl rfl (wn_t hF rfl rfl rfl rfl) (.inr hSS) (yl_move hF rfl rfl) ?_
          clear hF; intro a hF
          refine ha_y 19 hF rfl rfl rfl (wn_t hF rfl rfl rfl rfl) (.inr hSS) (yl_fieldAddr hF rfl rfl (fun w => by kernel_rfl : ∀ w, (Instr.fieldAt 24 (.pointer (some ⟨g77, 0, none⟩)) 2).run Try.prog w = .ok (.pointer (some ⟨g77, 2, none⟩)) w)) ?_
          clear hF; intro a hF
          refine ha_l 16 hF rfl rfl rfl (wn_t hF rfl rfl rfl rfl) hSS (yl_loadK (rs := [_, _, _]) (fun _ h => h) hF rfl rfl 0 rfl ag24 sz24 rfl rfl) ?_
          clear hF; intro a hF
          refine ha_l 20 hF rfl rfl rfl (wn_t hF rfl rfl rfl rfl) hSS (yl_load (fun _ h => h) hF rfl rfl 0 rfl ag3 rfl) ?_
          clear hF; intro a hF
          have hc85 := held_in L (r) (c) (t)
          refine ha_one 18 (by kernel_rfl) rfl (wn_t hF rfl rfl rfl rfl) (wp_call (vs := [_, _]) hF rfl rfl rfl rfl cf11 (held1 _ L (r) (c) (t) _ (hS.rdRow 0 rfl) (by first | omega | (simp; done) | (simp; omega))) ?_)
          clear hF; rintro _ w ⟨rfl, hS1⟩ a hF
          replace hS := hS.callB hS1 rfl; clear hS1
          replace hSS := hS.sub [2] (by decide) rfl (by simp)
          refine ⟨.inr hSS, ?_⟩
          refine ha_y 21 hF rfl rfl rfl (wn_t hF rfl rfl rfl rfl) (.inr hSS) (yl_bin hF rfl rfl rfl rfl (fun _ => run_geq)) ?_
          clear hF; intro a hF
          refine ha_y 22 hF rfl rfl rfl (wn_t hF rfl rfl rfl rfl) (.inr hSS) (yl_pick (u := _) (v := undef) hF rfl rfl (fun h => by cases h) (fun _ => rfl)) ?_
          clear hF; intro a hF
          refine ha_y 23 hF rfl rfl rfl (wn_t hF rfl rfl rfl rfl) (.inr hSS) (yl_pick (u := _) (v := undef) hF rfl rfl (fun _ => rfl) (fun h => by cases h)) ?_
          clear hF; intro a hF
          refine ha_y 24 hF rfl rfl rfl (wn_none rfl) (.inr hSS) (yl_pick (u := _) (v := undef) hF rfl rfl (fun h => by cases h) (fun _ => rfl)) ?_
          clear hF; intro a hF
          refine ha_done (by kernel_rfl) ?_ _
          refine then_n ?_
          refine c_cond hF rfl (fun hc86 => ?_) (fun hc86 => ?_)
          · first | (replace hc86 := of_decide_eq_true hc86) | (replace hc86 := of_decide_eq_false (bnot_t hc86)) | (replace hc86 := bnot_t hc86) | skip
            refine c_seq ?_
            refine c_region ?_
            refine seq_yl hF (wn_none rfl) rfl rfl (yl_loadK (rs := [_, _, _]) (fun _ h => h ▸ hS) hF rfl rfl 2 rfl ag24 sz24 rfl rfl) ?_
            clear hF; intro a hF
            refine seq_wp (wn_none rfl) (wp_store (cs' := #[_, _, _]) hF hS rfl rfl rfl rfl 1 rfl sz24 (by simp [Value.cells, Value.oneCell']) (by simp [Value.cells]) rfl ?_)
            clear hF hS; intro a w hF hS
            refine seq_yl hF (wn_none rfl) rfl rfl (yl_assign hF rfl rfl) ?_
            clear hF; intro a hF
            refine seq_yl hF (wn_none rfl) rfl rfl (yl_assign hF rfl rfl) ?_
            clear hF; intro a hF
            refine wpList_nil ?_
            refine then_n ?_
            refine wp_ret ?_
            refine then_r ?_
            refine ret_ctt hF rfl (resC hS rfl 1 rfl ag24 sz24) rfl rfl ?_
            exact ⟨_, rfl, _, _, _, _, rfl, get_no (by first | exact .inl (by omega) | exact .inr (.inl (by omega)) | exact .inr (.inr ⟨by assumption, by omega⟩) | exact .inr (.inl (count_no (by assumption)))), (hS.sub [0] (by decide) (by first | rfl | simp) (by simp))⟩
          · first | (replace hc86 := of_decide_eq_false hc86) | (replace hc86 := of_decide_eq_true (bnot_f hc86)) | (replace hc86 := bnot_f hc86) | skip
            refine wp_skip ?_
            refine then_n ?_
            refine c_seq ?_
            refine c_region ?_
            have hng : ¬ badG L r c t u := notbad (by omega) (by omega) (by first | exact .inl (by assumption) | exact .inr (by omega))
            obtain ⟨hval, hmem⟩ := free_valid (show ¬ countF L r c (-1) = 0 by omega)
            obtain ⟨k, hk, hkl⟩ := idx_mem hmem
            refine seq_yl hF (wn_none rfl) rfl rfl (yl_fieldAddr hF rfl rfl (fun w => by kernel_rfl : ∀ w, (Instr.fieldAt 24 (.pointer (some ⟨g77, 0, none⟩)) 0).run Try.prog w = .ok (.pointer (some ⟨g77, 0, none⟩)) w)) ?_
            clear hF; intro a hF
            refine seq_yl hF (wn_none rfl) rfl rfl (yl_load (fun _ h => h ▸ hS) hF rfl rfl 2 rfl ag22 rfl) ?_
            clear hF; intro a hF
            refine seq_wp (wn_none rfl) (wp_call (vs := [_, _]) hF rfl rfl rfl rfl cf25 (index_any _ L (-1 : Int) _ (hS.rdRow 0 rfl) (by first | omega | (simp; done) | (simp; omega))) ?_)
            clear hF; rintro _ w ⟨rfl, hS1⟩ a hF
            replace hS := hS.callB hS1 rfl; clear hS1
            replace hF := fr_seti (b' := ((k : Nat) : Int)) hF (hk)
            refine seq_yl hF (wn_none rfl) rfl rfl (yl_assign hF rfl rfl) ?_
            clear hF; intro a hF
            refine wpList_nil ?_
            refine then_n ?_
            refine c_seq ?_
            refine c_region ?_
            refine seq_yl hF (wn_none rfl) rfl rfl (yl_fieldAddr hF rfl rfl (fun w => by kernel_rfl : ∀ w, (Instr.fieldAt 24 (.pointer (some ⟨g77, 0, none⟩)) 0).run Try.prog w = .ok (.pointer (some ⟨g77, 0, none⟩)) w)) ?_
            clear hF; intro a hF
            refine seq_yl hF (wn_none rfl) rfl rfl (yl_load (fun _ h => h ▸ hS) hF rfl rfl 2 rfl ag22 rfl) ?_
            clear hF; intro a hF
            refine seq_yl hF (wn_none rfl) rfl rfl (yl_move hF rfl rfl) ?_
            clear hF; intro a hF
            refine seq_yl hF (wn_none rfl) rfl rfl (yl_move hF rfl rfl) ?_
            clear hF; intro a hF
            have hlt_hx87 : k < (L).length := by first | omega | (simp; done) | (simp; omega)
            obtain ⟨ad88, rfl⟩ := rd_some (hS.rdRow 0 rfl) hlt_hx87
            obtain ⟨x87, hx87⟩ := get_some hlt_hx87
            refine seq_yl hF (wn_none rfl) rfl rfl (yl_indexAddr hF rfl rfl rfl (fun _ => run_idx' sl22 sz3 (hS.rdRow 0 rfl) hlt_hx87)) ?_
            clear hF; intro a hF
            refine seq_wp (wn_none rfl) (wp_storeAt0 (enc := encI) (z' := (t)) hF hS rfl rfl rfl rfl 0 rfl sz3 (by simp [Value.cells, Value.oneCell']) encI_len hx87 (by simp [Value.cells]) rfl ?_)
            clear hF hS; intro a w hF hS
            have hlt_hx89 : k < (L.set k (t)).length := by simpa using hlt_hx87
            obtain ⟨x89, hx89, hex89⟩ : ∃ x, (L.set k (t))[k]? = some x ∧ x = (t) := ⟨_, List.getElem?_set_self hlt_hx87, rfl⟩
            refine wpList_nil ?_
            refine then_n ?_
            refine c_seq ?_
            refine c_region ?_
            refine seq_yl hF (wn_none rfl) rfl rfl (yl_loadK (rs := [_, _, _]) (fun _ h => h ▸ hS) hF rfl rfl 2 rfl ag24 sz24 rfl rfl) ?_
            clear hF; intro a hF
            refine seq_yl hF (wn_none rfl) rfl rfl (yl_move hF rfl rfl) ?_
            clear hF; intro a hF
            refine seq_wp (wn_none rfl) (wp_store (cs' := #[_, _, _]) hF hS rfl rfl rfl rfl 1 rfl sz24 (by simp [Value.cells, Value.oneCell']) (by simp [Value.cells]) rfl ?_)
            clear hF hS; intro a w hF hS
            refine seq_yl hF (wn_none rfl) rfl rfl (yl_assign hF rfl rfl) ?_
            clear hF; intro a hF
            refine seq_yl hF (wn_none rfl) rfl rfl (yl_assign hF rfl rfl) ?_
            clear hF; intro a hF
            refine wpList_nil ?_
            refine then_n ?_
            refine wp_ret ?_
            refine ret_ctt hF rfl (resC hS rfl 1 rfl ag24 sz24) rfl rfl ?_
            exact ⟨_, rfl, _, _, _, _, rfl, get_idx hng hk, (hS.sub [0] (by decide) (by first | rfl | simp) (by simp))⟩
      · first | (replace hc83 := of_decide_eq_false hc83) | (replace hc83 := of_decide_eq_true (bnot_f hc83)) | (replace hc83 := bnot_f hc83) | skip
        refine ha_s 11 hF rfl rfl rfl (wn_f hF rfl rfl rfl rfl) (.inr hSS) ?_
        clear hF; intro a hF
        refine ha_s 12 hF rfl rfl rfl (wn_f hF rfl rfl rfl rfl) (.inr hSS) ?_
        clear hF; intro a hF
        refine ha_s 13 hF rfl rfl rfl (wn_f hF rfl rfl rfl rfl) (.inr hSS) ?_
        clear hF; intro a hF
        refine ha_s 14 hF rfl rfl rfl (wn_f hF rfl rfl rfl rfl) (.inr hSS) ?_
        clear hF; intro a hF
        refine ha_s 15 hF rfl rfl rfl (wn_f hF rfl rfl rfl rfl) (.inr hSS) ?_
        clear hF; intro a hF
        refine ha_s 16 hF rfl rfl rfl (wn_u hF rfl rfl rfl rfl) (.inr hSS) ?_
        clear hF; intro a hF
        refine ha_s 17 hF rfl rfl rfl (wn_u hF rfl rfl rfl rfl) (.inr hSS) ?_
        clear hF; intro a hF
        refine ha_s 18 hF rfl rfl rfl (wn_u hF rfl rfl rfl rfl) (.inr hSS) ?_
        clear hF; intro a hF
        refine ha_s 19 hF rfl rfl rfl (wn_u hF rfl rfl rfl rfl) (.inr hSS) ?_
        clear hF; intro a hF
        refine ha_s 20 hF rfl rfl rfl (wn_u hF rfl rfl rfl rfl) (.inr hSS) ?_
        clear hF; intro a hF
        refine ha_s 21 hF rfl rfl rfl (wn_u hF rfl rfl rfl rfl) (.inr hSS) ?_
        clear hF; intro a hF
        refine ha_s 22 hF rfl rfl rfl (wn_f hF rfl rfl rfl rfl) (.inr hSS) ?_
        clear hF; intro a hF
        refine ha_y 23 hF rfl rfl rfl (wn_t hF rfl rfl rfl rfl) (.inr hSS) (yl_pick (u := _) (v := undef) hF rfl rfl (fun h => by cases h) (fun _ => rfl)) ?_
        clear hF; intro a hF
        refine ha_y 24 hF rfl rfl rfl (wn_none rfl) (.inr hSS) (yl_pick (u := _) (v := undef) hF rfl rfl (fun h => by cases h) (fun _ => rfl)) ?_
        clear hF; intro a hF
        refine ha_done (by kernel_rfl) ?_ _
        refine then_n ?_
        refine c_cond_f hF rfl ?_
        refine wp_skip ?_
        refine then_n ?_
        refine c_seq ?_
        refine c_region ?_
        have hng : ¬ badG L r c t u := notbad (by omega) (by omega) (by first | exact .inl (by assumption) | exact .inr (by omega))
        obtain ⟨hval, hmem⟩ := free_valid (show ¬ countF L r c (-1) = 0 by omega)
        obtain ⟨k, hk, hkl⟩ := idx_mem hmem
        refine seq_yl hF (wn_none rfl) rfl rfl (yl_fieldAddr hF rfl rfl (fun w => by kernel_rfl : ∀ w, (Instr.fieldAt 24 (.pointer (some ⟨g77, 0, none⟩)) 0).run Try.prog w = .ok (.pointer (some ⟨g77, 0, none⟩)) w)) ?_
        clear hF; intro a hF
        refine seq_yl hF (wn_none rfl) rfl rfl (yl_load (fun _ h => h ▸ hS) hF rfl rfl 2 rfl ag22 rfl) ?_
        clear hF; intro a hF
        refine seq_wp (wn_none rfl) (wp_call (vs := [_, _]) hF rfl rfl rfl rfl cf25 (index_any _ L (-1 : Int) _ (hS.rdRow 0 rfl) (by first | omega | (simp; done) | (simp; omega))) ?_)
        clear hF; rintro _ w ⟨rfl, hS1⟩ a hF
        replace hS := hS.callB hS1 rfl; clear hS1
        replace hF := fr_seti (b' := ((k : Nat) : Int)) hF (hk)
        refine seq_yl hF (wn_none rfl) rfl rfl (yl_assign hF rfl rfl) ?_
        clear hF; intro a hF
        refine wpList_nil ?_
        refine then_n ?_
        refine c_seq ?_
        refine c_region ?_
        refine seq_yl hF (wn_none rfl) rfl rfl (yl_fieldAddr hF rfl rfl (fun w => by kernel_rfl : ∀ w, (Instr.fieldAt 24 (.pointer (some ⟨g77, 0, none⟩)) 0).run Try.prog w = .ok (.pointer (some ⟨g77, 0, none⟩)) w)) ?_
        clear hF; intro a hF
        refine seq_yl hF (wn_none rfl) rfl rfl (yl_load (fun _ h => h ▸ hS) hF rfl rfl 2 rfl ag22 rfl) ?_
        clear hF; intro a hF
        refine seq_yl hF (wn_none rfl) rfl rfl (yl_move hF rfl rfl) ?_
        clear hF; intro a hF
        refine seq_yl hF (wn_none rfl) rfl rfl (yl_move hF rfl rfl) ?_
        clear hF; intro a hF
        have hlt_hx90 : k < (L).length := by first | omega | (simp; done) | (simp; omega)
        obtain ⟨ad91, rfl⟩ := rd_some (hS.rdRow 0 rfl) hlt_hx90
        obtain ⟨x90, hx90⟩ := get_some hlt_hx90
        refine seq_yl hF (wn_none rfl) rfl rfl (yl_indexAddr hF rfl rfl rfl (fun _ => run_idx' sl22 sz3 (hS.rdRow 0 rfl) hlt_hx90)) ?_
        clear hF; intro a hF
        refine seq_wp (wn_none rfl) (wp_storeAt0 (enc := encI) (z' := (t)) hF hS rfl rfl rfl rfl 0 rfl sz3 (by simp [Value.cells, Value.oneCell']) encI_len hx90 (by simp [Value.cells]) rfl ?_)
        clear hF hS; intro a w hF hS
        have hlt_hx92 : k < (L.set k (t)).length := by simpa using hlt_hx90
        obtain ⟨x92, hx92, hex92⟩ : ∃ x, (L.set k (t))[k]? = some x ∧ x = (t) := ⟨_, List.getElem?_set_self hlt_hx90, rfl⟩
        refine wpList_nil ?_
        refine then_n ?_
        refine c_seq ?_
        refine c_region ?_
        refine seq_yl hF (wn_none rfl) rfl rfl (yl_loadK (rs := [_, _, _]) (fun _ h => h ▸ hS) hF rfl rfl 2 rfl ag24 sz24 rfl rfl) ?_
        clear hF; intro a hF
        refine seq_yl hF (wn_none rfl) rfl rfl (yl_move hF rfl rfl) ?_
        clear hF; intro a hF
        refine seq_wp (wn_none rfl) (wp_store (cs' := #[_, _, _]) hF hS rfl rfl rfl rfl 1 rfl sz24 (by simp [Value.cells, Value.oneCell']) (by simp [Value.cells]) rfl ?_)
        clear hF hS; intro a w hF hS
        refine seq_yl hF (wn_none rfl) rfl rfl (yl_assign hF rfl rfl) ?_
        clear hF; intro a hF
        refine seq_yl hF (wn_none rfl) rfl rfl (yl_assign hF rfl rfl) ?_
        clear hF; intro a hF
        refine wpList_nil ?_
        refine then_n ?_
        refine wp_ret ?_
        refine ret_ctt hF rfl (resC hS rfl 1 rfl ag24 sz24) rfl rfl ?_
        exact ⟨_, rfl, _, _, _, _, rfl, get_idx hng hk, (hS.sub [0] (by decide) (by first | rfl | simp) (by simp))⟩

set_option maxHeartbeats 1000000 in
set_option maxRecDepth 100000 in
theorem get2 (v : Value) (L : List Int) (r c t : Int) (u : Bool) (w0 : World) (hv : Rd w0 1 v (L).length (cells encI (L))) (hL : L.length ≤ 1000000) :
    Fn Try.prog 15 #[.agg #[v, .int .i64 r, .int .i64 c], .int .i64 t, .bool u] w0 (fun v w' => ∃ (v1 : Value) (L1 : List Int) (k : Int) (b : Bool), v = .tuple #[.agg #[v1, .int .i64 r, .int .i64 c], .int .i64 k, .bool b] ∧ getF L r c t u = (L1, k, b) ∧ Sat w0 w' [.row 3 1 v1 (L1).length (cells encI (L1))]) := by
  obtain ⟨Av, cv, rfl⟩ := Rd.form hv
  refine c_enter (N := 60) (l := [_, _, _]) Try.func15 rfl rfl (fun a w hF hS => ?_)
  replace hS := hS.addRo hv
  refine c_seq ?_
  refine c_region ?_
  refine seq_wp (wn_none rfl) (wp_box (cs := #[_, _, _]) hF hS rfl rfl rfl rfl rfl ?_)
  clear hF hS; intro a w g93 hF hS
  refine seq_wp (wn_none rfl) (wp_alloc (cs := #[_, _, _]) hF hS rfl rfl rfl zr24 rfl ?_)
  clear hF hS; intro a w g94 hF hS
  refine seq_yl hF (wn_none rfl) rfl rfl (yl_assign hF rfl rfl) ?_
  clear hF; intro a hF
  refine seq_yl hF (wn_none rfl) rfl rfl (yl_assign hF rfl rfl) ?_
  clear hF; intro a hF
  refine wpList_nil ?_
  refine then_n ?_
  refine c_seq ?_
  refine c_seq ?_
  refine ha_startS hS [1] 35 (by kernel_rfl) ?_; clear hS; intro w hS
  have hSS := hS.sub [1] (by decide) rfl (by simp)
  refine ha_l 0 hF rfl rfl rfl (wn_none rfl) hSS (yl_loadK (rs := [_, _, _]) (fun _ h => h) hF rfl rfl 0 rfl ag24 sz24 rfl rfl) ?_
  clear hF; intro a hF
  refine ha_one 1 (by kernel_rfl) rfl (wn_none rfl) (wp_call (vs := [_]) hF rfl rfl rfl rfl cf19 (valid2 _ L (r) (c) _ (hS.rdRo 2 rfl) (by first | omega | (simp; done) | (simp; omega))) ?_)
  clear hF; rintro _ w ⟨rfl, hS1⟩ a hF
  replace hS := hS.callB hS1 rfl; clear hS1
  replace hSS := hS.sub [1] (by decide) rfl (by simp)
  refine ⟨.inr hSS, ?_⟩
  refine ha_y 2 hF rfl rfl rfl (wn_none rfl) (.inr hSS) (yl_un hF rfl rfl (fun _ => run_not)) ?_
  clear hF; intro a hF
  refine ha_y 3 hF rfl rfl rfl (wn_none rfl) (.inr hSS) (yl_move hF rfl rfl) ?_
  clear hF; intro a hF
  refine fr_split hF (fun hc95 hF => ?_) (fun hc95 hF => ?_)
  · first | (replace hc95 := of_decide_eq_true hc95) | (replace hc95 := of_decide_eq_false (bnot_t hc95)) | (replace hc95 := bnot_t hc95) | skip
    refine ha_s 4 hF rfl rfl rfl (wn_f hF rfl rfl rfl rfl) (.inr hSS) ?_
    clear hF; intro a hF
    refine ha_s 5 hF rfl rfl rfl (wn_f hF rfl rfl rfl rfl) (.inr hSS) ?_
    clear hF; intro a hF
    refine ha_y 6 hF rfl rfl rfl (wn_none rfl) (.inr hSS) (yl_pick (u := _) (v := undef) hF rfl rfl (fun _ => rfl) (fun h => by cases h)) ?_
    clear hF; intro a hF
    refine ha_y 7 hF rfl rfl rfl (wn_none rfl) (.inr hSS) (yl_move hF rfl rfl) ?_
    clear hF; intro a hF
    refine ha_s 8 hF rfl rfl rfl (wn_f hF rfl rfl rfl rfl) (.inr hSS) ?_
    clear hF; intro a hF
    refine ha_s 9 hF rfl rfl rfl (wn_f hF rfl rfl rfl rfl) (.inr hSS) ?_
    clear hF; intro a hF
    refine ha_y 10 hF rfl rfl rfl (wn_none rfl) (.inr hSS) (yl_pick (u := _) (v := undef) hF rfl rfl (fun _ => rfl) (fun h => by cases h)) ?_
    clear hF; intro a hF
    refine ha_y 11 hF rfl rfl rfl (wn_none rfl) (.inr hSS) (yl_move hF rfl rfl) ?_
    clear hF; intro a hF
    refine ha_s 12 hF rfl rfl rfl (wn_f hF rfl rfl rfl rfl) (.inr hSS) ?_
    clear hF; intro a hF
    refine ha_s 13 hF rfl rfl rfl (wn_f hF rfl rfl rfl rfl) (.inr hSS) ?_
    clear hF; intro a hF
    refine ha_s 14 hF rfl rfl rfl (wn_f hF rfl rfl rfl rfl) (.inr hSS) ?_
    clear hF; intro a hF
    refine ha_y 15 hF rfl rfl rfl (wn_none rfl) (.inr hSS) (yl_pick (u := _) (v := undef) hF rfl rfl (fun _ => rfl) (fun h => by cases h)) ?_
    clear hF; intro a hF
    refine ha_y 16 hF rfl rfl rfl (wn_none rfl) (.inr hSS) (yl_move hF rfl rfl) ?_
    clear hF; intro a hF
    refine ha_s 17 hF rfl rfl rfl (wn_f hF rfl rfl rfl rfl) (.inr hSS) ?_
    clear hF; intro a hF
    refine ha_s 18 hF rfl rfl rfl (wn_f hF rfl rfl rfl rfl) (.inr hSS) ?_
    clear hF; intro a hF
    refine ha_s 19 hF rfl rfl rfl (wn_f hF rfl rfl rfl rfl) (.inr hSS) ?_
    clear hF; intro a hF
    refine ha_s 20 hF rfl rfl rfl (wn_u hF rfl rfl rfl rfl) (.inr hSS) ?_
    clear hF; intro a hF
    refine ha_s 21 hF rfl rfl rfl (wn_u hF rfl rfl rfl rfl) (.inr hSS) ?_
    clear hF; intro a hF
    refine ha_s 22 hF rfl rfl rfl (wn_u hF rfl rfl rfl rfl) (.inr hSS) ?_
    clear hF; intro a hF
    refine ha_s 23 hF rfl rfl rfl (wn_u hF rfl rfl rfl rfl) (.inr hSS) ?_
    clear hF; intro a hF
    refine ha_s 24 hF rfl rfl rfl (wn_u hF rfl rfl rfl rfl) (.inr hSS) ?_
    clear hF; intro a hF
    refine ha_s 25 hF rfl rfl rfl (wn_u hF rfl rfl rfl rfl) (.inr hSS) ?_
    clear hF; intro a hF
    refine ha_s 26 hF rfl rfl rfl (wn_u hF rfl rfl rfl rfl) (.inr hSS) ?_
    clear hF; intro a hF
    refine ha_s 27 hF rfl rfl rfl (wn_u hF rfl rfl rfl rfl) (.inr hSS) ?_
    clear hF; intro a hF
    refine ha_s 28 hF rfl rfl rfl (wn_u hF rfl rfl rfl rfl) (.inr hSS) ?_
    clear hF; intro a hF
    refine ha_s 29 hF rfl rfl rfl (wn_u hF rfl rfl rfl rfl) (.inr hSS) ?_
    clear hF; intro a hF
    refine ha_s 30 hF rfl rfl rfl (wn_u hF rfl rfl rfl rfl) (.inr hSS) ?_
    clear hF; intro a hF
    refine ha_s 31 hF rfl rfl rfl (wn_u hF rfl rfl rfl rfl) (.inr hSS) ?_
    clear hF; intro a hF
    refine ha_s 32 hF rfl rfl rfl (wn_u hF rfl rfl rfl rfl) (.inr hSS) ?_
    clear hF; intro a hF
    refine ha_s 33 hF rfl rfl rfl (wn_f hF rfl rfl rfl rfl) (.inr hSS) ?_
    clear hF; intro a hF
    refine ha_y 34 hF rfl rfl rfl (wn_none rfl) (.inr hSS) (yl_pick (u := _) (v := undef) hF rfl rfl (fun _ => rfl) (fun h => by cases h)) ?_
    clear hF; intro a hF
    refine ha_done (by kernel_rfl) ?_ _
    refine then_n ?_
    refine c_cond_t hF rfl ?_
    refine c_seq ?_
    refine c_region ?_
    refine seq_yl hF (wn_none rfl) rfl rfl (yl_loadK (rs := [_, _, _]) (fun _ h => h ▸ hS) hF rfl rfl 1 rfl ag24 sz24 rfl rfl) ?_
    clear hF; intro a hF
    refine seq_wp (wn_none rfl) (wp_call (vs := [_, _, _]) hF rfl rfl rfl rfl cf28 (withN _ L (r) (c) _ (hS.rdRo 2 rfl) (by first | omega | (simp; done) | (simp; omega))) ?_)
    clear hF; rintro _ w ⟨v96, rfl, hS1⟩ a hF
    replace hS := hS.callB hS1 rfl; clear hS1
    obtain ⟨Av96, cv96, rfl⟩ := hS.form 0 rfl
    refine seq_wp (wn_none rfl) (wp_store (cs' := #[_, _, _]) hF hS rfl rfl rfl rfl 1 rfl sz24 (by simp [Value.cells, Value.oneCell']) (by simp [Value.cells]) rfl ?_)
    clear hF hS; intro a w hF hS
    refine seq_yl hF (wn_none rfl) rfl rfl (yl_assign hF rfl rfl) ?_
    clear hF; intro a hF
    refine seq_yl hF (wn_none rfl) rfl rfl (yl_assign hF rfl rfl) ?_
    clear hF; intro a hF
    refine wpList_nil ?_
    refine then_n ?_
    refine wp_ret ?_
    refine then_r ?_
    refine ret_ctt hF rfl (resC hS rfl 1 rfl ag24 sz24) rfl rfl ?_
    exact ⟨_, rfl, _, _, _, _, rfl, get_no (by first | exact .inl (by omega) | exact .inr (.inl (by omega)) | exact .inr (.inr ⟨by assumption, by omega⟩) | exact .inr (.inl (count_no (by assumption)))), (hS.sub [0] (by decide) (by first | rfl | simp) (by simp))⟩
  · first | (replace hc95 := of_decide_eq_false hc95) | (replace hc95 := of_decide_eq_true (bnot_f hc95)) | (replace hc95 := bnot_f hc95) | skip
    refine ha_y 4 hF rfl rfl rfl (wn_t hF rfl rfl rfl rfl) (.inr hSS) (yl_move hF rfl rfl) ?_
    clear hF; intro a hF
    refine ha_y 5 hF rfl rfl rfl (wn_t hF rfl rfl rfl rfl) (.inr hSS) (yl_bin hF rfl rfl rfl rfl (fun _ => run_lss)) ?_
    clear hF; intro a hF
    refine ha_y 6 hF rfl rfl rfl (wn_none rfl) (.inr hSS) (yl_pick (u := _) (v := undef) hF rfl rfl (fun h => by cases h) (fun _ => rfl)) ?_
    clear hF; intro a hF
    refine ha_y 7 hF rfl rfl rfl (wn_none rfl) (.inr hSS) (yl_move hF rfl rfl) ?_
    clear hF; intro a hF
    refine fr_split hF (fun hc97 hF => ?_) (fun hc97 hF => ?_)
    · first | (replace hc97 := of_decide_eq_true hc97) | (replace hc97 := of_decide_eq_false (bnot_t hc97)) | (replace hc97 := bnot_t hc97) | skip
      refine ha_s 8 hF rfl rfl rfl (wn_f hF rfl rfl rfl rfl) (.inr hSS) ?_
      clear hF; intro a hF
      refine ha_s 9 hF rfl rfl rfl (wn_f hF rfl rfl rfl rfl) (.inr hSS) ?_
      clear hF; intro a hF
      refine ha_y 10 hF rfl rfl rfl (wn_none rfl) (.inr hSS) (yl_pick (u := _) (v := undef) hF rfl rfl (fun _ => rfl) (fun h => by cases h)) ?_
      clear hF; intro a hF
      refine ha_y 11 hF rfl rfl rfl (wn_none rfl) (.inr hSS) (yl_move hF rfl rfl) ?_
      clear hF; intro a hF
      refine ha_s 12 hF rfl rfl rfl (wn_f hF rfl rfl rfl rfl) (.inr hSS) ?_
      clear hF; intro a hF
      refine ha_s 13 hF rfl rfl rfl (wn_f hF rfl rfl rfl rfl) (.inr hSS) ?_
      clear hF; intro a hF
      refine ha_s 14 hF rfl rfl rfl (wn_f hF rfl rfl rfl rfl) (.inr hSS) ?_
      clear hF; intro a hF
      refine ha_y 15 hF rfl rfl rfl (wn_none rfl) (.inr hSS) (yl_pick (u := _) (v := undef) hF rfl rfl (fun _ => rfl) (fun h => by cases h)) ?_
      clear hF; intro a hF
      refine ha_y 16 hF rfl rfl rfl (wn_none rfl) (.inr hSS) (yl_move hF rfl rfl) ?_
      clear hF; intro a hF
      refine ha_s 17 hF rfl rfl rfl (wn_f hF rfl rfl rfl rfl) (.inr hSS) ?_
      clear hF; intro a hF
      refine ha_s 18 hF rfl rfl rfl (wn_f hF rfl rfl rfl rfl) (.inr hSS) ?_
      clear hF; intro a hF
      refine ha_s 19 hF rfl rfl rfl (wn_f hF rfl rfl rfl rfl) (.inr hSS) ?_
      clear hF; intro a hF
      refine ha_s 20 hF rfl rfl rfl (wn_u hF rfl rfl rfl rfl) (.inr hSS) ?_
      clear hF; intro a hF
      refine ha_s 21 hF rfl rfl rfl (wn_u hF rfl rfl rfl rfl) (.inr hSS) ?_
      clear hF; intro a hF
      refine ha_s 22 hF rfl rfl rfl (wn_u hF rfl rfl rfl rfl) (.inr hSS) ?_
      clear hF; intro a hF
      refine ha_s 23 hF rfl rfl rfl (wn_u hF rfl rfl rfl rfl) (.inr hSS) ?_
      clear hF; intro a hF
      refine ha_s 24 hF rfl rfl rfl (wn_u hF rfl rfl rfl rfl) (.inr hSS) ?_
      clear hF; intro a hF
      refine ha_s 25 hF rfl rfl rfl (wn_u hF rfl rfl rfl rfl) (.inr hSS) ?_
      clear hF; intro a hF
      refine ha_s 26 hF rfl rfl rfl (wn_u hF rfl rfl rfl rfl) (.inr hSS) ?_
      clear hF; intro a hF
      refine ha_s 27 hF rfl rfl rfl (wn_u hF rfl rfl rfl rfl) (.inr hSS) ?_
      clear hF; intro a hF
      refine ha_s 28 hF rfl rfl rfl (wn_u hF rfl rfl rfl rfl) (.inr hSS) ?_
      clear hF; intro a hF
      refine ha_s 29 hF rfl rfl rfl (wn_u hF rfl rfl rfl rfl) (.inr hSS) ?_
      clear hF; intro a hF
      refine ha_s 30 hF rfl rfl rfl (wn_u hF rfl rfl rfl rfl) (.inr hSS) ?_
      clear hF; intro a hF
      refine ha_s 31 hF rfl rfl rfl (wn_u hF rfl rfl rfl rfl) (.inr hSS) ?_
      clear hF; intro a hF
      refine ha_s 32 hF rfl rfl rfl (wn_u hF rfl rfl rfl rfl) (.inr hSS) ?_
      clear hF; intro a hF
      refine ha_s 33 hF rfl rfl rfl (wn_f hF rfl rfl rfl rfl) (.inr hSS) ?_
      clear hF; intro a hF
      refine ha_y 34 hF rfl rfl rfl (wn_none rfl) (.inr hSS) (yl_pick (u := _) (v := undef) hF rfl rfl (fun _ => rfl) (fun h => by cases h)) ?_
      clear hF; intro a hF
      refine ha_done (by kernel_rfl) ?_ _
      refine then_n ?_
      refine c_cond_t hF rfl ?_
      refine c_seq ?_
      refine c_region ?_
      refine seq_yl hF (wn_none rfl) rfl rfl (yl_loadK (rs := [_, _, _]) (fun _ h => h ▸ hS) hF rfl rfl 1 rfl ag24 sz24 rfl rfl) ?_
      clear hF; intro a hF
      refine seq_wp (wn_none rfl) (wp_call (vs := [_, _, _]) hF rfl rfl rfl rfl cf28 (withN _ L (r) (c) _ (hS.rdRo 2 rfl) (by first | omega | (simp; done) | (simp; omega))) ?_)
      clear hF; rintro _ w ⟨v98, rfl, hS1⟩ a hF
      replace hS := hS.callB hS1 rfl; clear hS1
      obtain ⟨Av98, cv98, rfl⟩ := hS.form 0 rfl
      refine seq_wp (wn_none rfl) (wp_store (cs' := #[_, _, _]) hF hS rfl rfl rfl rfl 1 rfl sz24 (by simp [Value.cells, Value.oneCell']) (by simp [Value.cells]) rfl ?_)
      clear hF hS; intro a w hF hS
      refine seq_yl hF (wn_none rfl) rfl rfl (yl_assign hF rfl rfl) ?_
      clear hF; intro a hF
      refine seq_yl hF (wn_none rfl) rfl rfl (yl_assign hF rfl rfl) ?_
      clear hF; intro a hF
      refine wpList_nil ?_
      refine then_n ?_
      refine wp_ret ?_
      refine then_r ?_
      refine ret_ctt hF rfl (resC hS rfl 1 rfl ag24 sz24) rfl rfl ?_
      exact ⟨_, rfl, _, _, _, _, rfl, get_no (by first | exact .inl (by omega) | exact .inr (.inl (by omega)) | exact .inr (.inr ⟨by assumption, by omega⟩) | exact .inr (.inl (count_no (by assumption)))), (hS.sub [0] (by decide) (by first | rfl | simp) (by simp))⟩
    · first | (replace hc97 := of_decide_eq_false hc97) | (replace hc97 := of_decide_eq_true (bnot_f hc97)) | (replace hc97 := bnot_f hc97) | skip
      refine ha_y 8 hF rfl rfl rfl (wn_t hF rfl rfl rfl rfl) (.inr hSS) (yl_move hF rfl rfl) ?_
      clear hF; intro a hF
      refine ha_y 9 hF rfl rfl rfl (wn_t hF rfl rfl rfl rfl) (.inr hSS) (yl_bin hF rfl rfl rfl rfl (fun _ => run_gtr)) ?_
      clear hF; intro a hF
      refine ha_y 10 hF rfl rfl rfl (wn_none rfl) (.inr hSS) (yl_pick (u := _) (v := undef) hF rfl rfl (fun h => by cases h) (fun _ => rfl)) ?_
      clear hF; intro a hF
      refine ha_y 11 hF rfl rfl rfl (wn_none rfl) (.inr hSS) (yl_move hF rfl rfl) ?_
      clear hF; intro a hF
      refine fr_split hF (fun hc99 hF => ?_) (fun hc99 hF => ?_)
      · first | (replace hc99 := of_decide_eq_true hc99) | (replace hc99 := of_decide_eq_false (bnot_t hc99)) | (replace hc99 := bnot_t hc99) | skip
        refine ha_s 12 hF rfl rfl rfl (wn_f hF rfl rfl rfl rfl) (.inr hSS) ?_
        clear hF; intro a hF
        refine ha_s 13 hF rfl rfl rfl (wn_f hF rfl rfl rfl rfl) (.inr hSS) ?_
        clear hF; intro a hF
        refine ha_s 14 hF rfl rfl rfl (wn_f hF rfl rfl rfl rfl) (.inr hSS) ?_
        clear hF; intro a hF
        refine ha_y 15 hF rfl rfl rfl (wn_none rfl) (.inr hSS) (yl_pick (u := _) (v := undef) hF rfl rfl (fun _ => rfl) (fun h => by cases h)) ?_
        clear hF; intro a hF
        refine ha_y 16 hF rfl rfl rfl (wn_none rfl) (.inr hSS) (yl_move hF rfl rfl) ?_
        clear hF; intro a hF
        refine ha_s 17 hF rfl rfl rfl (wn_f hF rfl rfl rfl rfl) (.inr hSS) ?_
        clear hF; intro a hF
        refine ha_s 18 hF rfl rfl rfl (wn_f hF rfl rfl rfl rfl) (.inr hSS) ?_
        clear hF; intro a hF
        refine ha_s 19 hF rfl rfl rfl (wn_f hF rfl rfl rfl rfl) (.inr hSS) ?_
        clear hF; intro a hF
        refine ha_s 20 hF rfl rfl rfl (wn_u hF rfl rfl rfl rfl) (.inr hSS) ?_
        clear hF; intro a hF
        refine ha_s 21 hF rfl rfl rfl (wn_u hF rfl rfl rfl rfl) (.inr hSS) ?_
        clear hF; intro a hF
        refine ha_s 22 hF rfl rfl rfl (wn_u hF rfl rfl rfl rfl) (.inr hSS) ?_
        clear hF; intro a hF
        refine ha_s 23 hF rfl rfl rfl (wn_u hF rfl rfl rfl rfl) (.inr hSS) ?_
        clear hF; intro a hF
        refine ha_s 24 hF rfl rfl rfl (wn_u hF rfl rfl rfl rfl) (.inr hSS) ?_
        clear hF; intro a hF
        refine ha_s 25 hF rfl rfl rfl (wn_u hF rfl rfl rfl rfl) (.inr hSS) ?_
        clear hF; intro a hF
        refine ha_s 26 hF rfl rfl rfl (wn_u hF rfl rfl rfl rfl) (.inr hSS) ?_
        clear hF; intro a hF
        refine ha_s 27 hF rfl rfl rfl (wn_u hF rfl rfl rfl rfl) (.inr hSS) ?_
        clear hF; intro a hF
        refine ha_s 28 hF rfl rfl rfl (wn_u hF rfl rfl rfl rfl) (.inr hSS) ?_
        clear hF; intro a hF
        refine ha_s 29 hF rfl rfl rfl (wn_u hF rfl rfl rfl rfl) (.inr hSS) ?_
        clear hF; intro a hF
        refine ha_s 30 hF rfl rfl rfl (wn_u hF rfl rfl rfl rfl) (.inr hSS) ?_
        clear hF; intro a hF
        refine ha_s 31 hF rfl rfl rfl (wn_u hF rfl rfl rfl rfl) (.inr hSS) ?_
        clear hF; intro a hF
        refine ha_s 32 hF rfl rfl rfl (wn_u hF rfl rfl rfl rfl) (.inr hSS) ?_
        clear hF; intro a hF
        refine ha_s 33 hF rfl rfl rfl (wn_f hF rfl rfl rfl rfl) (.inr hSS) ?_
        clear hF; intro a hF
        refine ha_y 34 hF rfl rfl rfl (wn_none rfl) (.inr hSS) (yl_pick (u := _) (v := undef) hF rfl rfl (fun _ => rfl) (fun h => by cases h)) ?_
        clear hF; intro a hF
        refine ha_done (by kernel_rfl) ?_ _
        refine then_n ?_
        refine c_cond_t hF rfl ?_
        refine c_seq ?_
        refine c_region ?_
        refine seq_yl hF (wn_none rfl) rfl rfl (yl_loadK (rs := [_, _, _]) (fun _ h => h ▸ hS) hF rfl rfl 1 rfl ag24 sz24 rfl rfl) ?_
        clear hF; intro a hF
        refine seq_wp (wn_none rfl) (wp_call (vs := [_, _, _]) hF rfl rfl rfl rfl cf28 (withN _ L (r) (c) _ (hS.rdRo 2 rfl) (by first | omega | (simp; done) | (simp; omega))) ?_)
        clear hF; rintro _ w ⟨v100, rfl, hS1⟩ a hF
        replace hS := hS.callB hS1 rfl; clear hS1
        obtain ⟨Av100, cv100, rfl⟩ := hS.form 0 rfl
        refine seq_wp (wn_none rfl) (wp_store (cs' := #[_, _, _]) hF hS rfl rfl rfl rfl 1 rfl sz24 (by simp [Value.cells, Value.oneCell']) (by simp [Value.cells]) rfl ?_)
        clear hF hS; intro a w hF hS
        refine seq_yl hF (wn_none rfl) rfl rfl (yl_assign hF rfl rfl) ?_
        clear hF; intro a hF
        refine seq_yl hF (wn_none rfl) rfl rfl (yl_assign hF rfl rfl) ?_
        clear hF; intro a hF
        refine wpList_nil ?_
        refine then_n ?_
        refine wp_ret ?_
        refine then_r ?_
        refine ret_ctt hF rfl (resC hS rfl 1 rfl ag24 sz24) rfl rfl ?_
        exact ⟨_, rfl, _, _, _, _, rfl, get_no (by first | exact .inl (by omega) | exact .inr (.inl (by omega)) | exact .inr (.inr ⟨by assumption, by omega⟩) | exact .inr (.inl (count_no (by assumption)))), (hS.sub [0] (by decide) (by first | rfl | simp) (by simp))⟩
      · first | (replace hc99 := of_decide_eq_false hc99) | (replace hc99 := of_decide_eq_true (bnot_f hc99)) | (replace hc99 := bnot_f hc99) | skip
        refine ha_l 12 hF rfl rfl rfl (wn_t hF rfl rfl rfl rfl) hSS (yl_loadK (rs := [_, _, _]) (fun _ h => h) hF rfl rfl 0 rfl ag24 sz24 rfl rfl) ?_
        clear hF; intro a hF
        have hc101 := count_in L (r) (c) (-1)
        refine ha_one 13 (by kernel_rfl) rfl (wn_t hF rfl rfl rfl rfl) (wp_call (vs := [_]) hF rfl rfl rfl rfl cf22 (free2 _ L (r) (c) _ (hS.rdRo 2 rfl) (by first | omega | (simp; done) | (simp; omega))) ?_)
        clear hF; rintro _ w ⟨rfl, hS1⟩ a hF
        replace hS := hS.callB hS1 rfl; clear hS1
        replace hSS := hS.sub [1] (by decide) rfl (by simp)
        refine ⟨.inr hSS, ?_⟩
        refine ha_y 14 hF rfl rfl rfl (wn_t hF rfl rfl rfl rfl) (.inr hSS) (yl_bin hF rfl rfl rfl rfl (fun _ => run_eql)) ?_
        clear hF; intro a hF
        refine ha_y 15 hF rfl rfl rfl (wn_none rfl) (.inr hSS) (yl_pick (u := _) (v := undef) hF rfl rfl (fun h => by cases h) (fun _ => rfl)) ?_
        clear hF; intro a hF
        refine ha_y 16 hF rfl rfl rfl (wn_none rfl) (.inr hSS) (yl_move hF rfl rfl) ?_
        clear hF; intro a hF
        refine fr_split hF (fun hc102 hF => ?_) (fun hc102 hF => ?_)
        · first | (replace hc102 := of_decide_eq_true hc102) | (replace hc102 := of_decide_eq_false (bnot_t hc102)) | (replace hc102 := bnot_t hc102) | skip
          refine ha_s 17 hF rfl rfl rfl (wn_f hF rfl rfl rfl rfl) (.inr hSS) ?_
          clear hF; intro a hF
          refine ha_s 18 hF rfl rfl rfl (wn_f hF rfl rfl rfl rfl) (.inr hSS) ?_
          clear hF; intro a hF
          refine ha_s 19 hF rfl rfl rfl (wn_f hF rfl rfl rfl rfl) (.inr hSS) ?_
          clear hF; intro a hF
          refine ha_s 20 hF rfl rfl rfl (wn_u hF rfl rfl rfl rfl) (.inr hSS) ?_
          clear hF; intro a hF
          refine ha_s 21 hF rfl rfl rfl (wn_u hF rfl rfl rfl rfl) (.inr hSS) ?_
          clear hF; intro a hF
          refine ha_s 22 hF rfl rfl rfl (wn_u hF rfl rfl rfl rfl) (.inr hSS) ?_
          clear hF; intro a hF
          refine ha_s 23 hF rfl rfl rfl (wn_u hF rfl rfl rfl rfl) (.inr hSS) ?_
          clear hF; intro a hF
          refine ha_s 24 hF rfl rfl rfl (wn_u hF rfl rfl rfl rfl) (.inr hSS) ?_
          clear hF; intro a hF
          refine ha_s 25 hF rfl rfl rfl (wn_u hF rfl rfl rfl rfl) (.inr hSS) ?_
          clear hF; intro a hF
          refine ha_s 26 hF rfl rfl rfl (wn_u hF rfl rfl rfl rfl) (.inr hSS) ?_
          clear hF; intro a hF
          refine ha_s 27 hF rfl rfl rfl (wn_u hF rfl rfl rfl rfl) (.inr hSS) ?_
          clear hF; intro a hF
          refine ha_s 28 hF rfl rfl rfl (wn_u hF rfl rfl rfl rfl) (.inr hSS) ?_
          clear hF; intro a hF
          refine ha_s 29 hF rfl rfl rfl (wn_u hF rfl rfl rfl rfl) (.inr hSS) ?_
          clear hF; intro a hF
          refine ha_s 30 hF rfl rfl rfl (wn_u hF rfl rfl rfl rfl) (.inr hSS) ?_
          clear hF; intro a hF
          refine ha_s 31 hF rfl rfl rfl (wn_u hF rfl rfl rfl rfl) (.inr hSS) ?_
          clear hF; intro a hF
          refine ha_s 32 hF rfl rfl rfl (wn_u hF rfl rfl rfl rfl) (.inr hSS) ?_
          clear hF; intro a hF
          refine ha_s 33 hF rfl rfl rfl (wn_f hF rfl rfl rfl rfl) (.inr hSS) ?_
          clear hF; intro a hF
          refine ha_y 34 hF rfl rfl rfl (wn_none rfl) (.inr hSS) (yl_pick (u := _) (v := undef) hF rfl rfl (fun _ => rfl) (fun h => by cases h)) ?_
          clear hF; intro a hF
          refine ha_done (by kernel_rfl) ?_ _
          refine then_n ?_
          refine c_cond_t hF rfl ?_
          refine c_seq ?_
          refine c_region ?_
          refine seq_yl hF (wn_none rfl) rfl rfl (yl_loadK (rs := [_, _, _]) (fun _ h => h ▸ hS) hF rfl rfl 1 rfl ag24 sz24 rfl rfl) ?_
          clear hF; intro a hF
          refine seq_wp (wn_none rfl) (wp_call (vs := [_, _, _]) hF rfl rfl rfl rfl cf28 (withN _ L (r) (c) _ (hS.rdRo 2 rfl) (by first | omega | (simp; done) | (simp; omega))) ?_)
          clear hF; rintro _ w ⟨v103, rfl, hS1⟩ a hF
          replace hS := hS.callB hS1 rfl; clear hS1
          obtain ⟨Av103, cv103, rfl⟩ := hS.form 0 rfl
          refine seq_wp (wn_none rfl) (wp_store (cs' := #[_, _, _]) hF hS rfl rfl rfl rfl 1 rfl sz24 (by simp [Value.cells, Value.oneCell']) (by simp [Value.cells]) rfl ?_)
          clear hF hS; intro a w hF hS
          refine seq_yl hF (wn_none rfl) rfl rfl (yl_assign hF rfl rfl) ?_
          clear hF; intro a hF
          refine seq_yl hF (wn_none rfl) rfl rfl (yl_assign hF rfl rfl) ?_
          clear hF; intro a hF
          refine wpList_nil ?_
          refine then_n ?_
          refine wp_ret ?_
          refine then_r ?_
          refine ret_ctt hF rfl (resC hS rfl 1 rfl ag24 sz24) rfl rfl ?_
          exact ⟨_, rfl, _, _, _, _, rfl, get_no (by first | exact .inl (by omega) | exact .inr (.inl (by omega)) | exact .inr (.inr ⟨by assumption, by omega⟩) | exact .inr (.inl (count_no (by assumption)))), (hS.sub [0] (by decide) (by first | rfl | simp) (by simp))⟩
        · first | (replace hc102 := of_decide_eq_false hc102) | (replace hc102 := of_decide_eq_true (bnot_f hc102)) | (replace hc102 := bnot_f hc102) | skip
          refine ha_y 17 hF rfl rfl rfl (wn_t hF rfl rfl rfl rfl) (.inr hSS) (yl_move hF rfl rfl) ?_
          clear hF; intro a hF
          refine ha_y 18 hF rfl rfl rfl (wn_t hF rfl rfl rfl rfl) (.inr hSS) (yl_un hF rfl rfl (fun _ => run_not)) ?_
          clear hF; intro a hF
          refine ha_y 19 hF rfl rfl rfl (wn_t hF rfl rfl rfl rfl) (.inr hSS) (yl_move hF rfl rfl) ?_
          clear hF; intro a hF
          refine fr_split hF (fun hc104 hF => ?_) (fun hc104 hF => ?_)
          · first | (replace hc104 := of_decide_eq_true hc104) | (replace hc104 := of_decide_eq_false (bnot_t hc104)) | (replace hc104 := bnot_t hc104) | skip
            refine ha_y 22 hF rfl rfl rfl (wn_t hF rfl rfl rfl rfl) (.inr hSS) (yl_fieldAddr hF rfl rfl (fun w => by kernel_rfl : ∀ w, (Instr.fieldAt 24 (.pointer (some ⟨g93, 0, none⟩)) 1).run Try.prog w = .ok (.pointer (some ⟨g93, 1, none⟩)) w)) ?_
            clear hF; intro a hF
            refine ha_l 20 hF rfl rfl rfl (wn_t hF rfl rfl rfl rfl) hSS (yl_loadK (rs := [_, _, _]) (fun _ h => h) hF rfl rfl 0 rfl ag24 sz24 rfl rfl) ?_
            clear hF; intro a hF
            refine ha_l 23 hF rfl rfl rfl (wn_t hF rfl rfl rfl rfl) hSS (yl_load (fun _ h => h) hF rfl rfl 0 rfl ag3 rfl) ?_
            clear hF; intro a hF
            have hc105 := count_in L (r) (c) (-1)
            refine ha_one 21 (by kernel_rfl) rfl (wn_t hF rfl rfl rfl rfl) (wp_call (vs := [_]) hF rfl rfl rfl rfl cf22 (free2 _ L (r) (c) _ (hS.rdRo 2 rfl) (by first | omega | (simp; done) | (simp; omega))) ?_)
            clear hF; rintro _ w ⟨rfl, hS1⟩ a hF
            replace hS := hS.callB hS1 rfl; clear hS1
            replace hSS := hS.sub [1] (by decide) rfl (by simp)
            refine ⟨.inr hSS, ?_⟩
            refine ha_y 24 hF rfl rfl rfl (wn_t hF rfl rfl rfl rfl) (.inr hSS) (yl_bin hF rfl rfl rfl rfl (fun _ => run_leq)) ?_
            clear hF; intro a hF
            refine ha_y 25 hF rfl rfl rfl (wn_t hF rfl rfl rfl rfl) (.inr hSS) (yl_move hF rfl rfl) ?_
            clear hF; intro a hF
            refine fr_split hF (fun hc106 hF => ?_) (fun hc106 hF => ?_)
            · first | (replace hc106 := of_decide_eq_true hc106) | (replace hc106 := of_decide_eq_false (bnot_t hc106)) | (replace hc106 := bnot_t hc106) | skip
              refine ha_s 26 hF rfl rfl rfl (wn_f hF rfl rfl rfl rfl) (.inr hSS) ?_
              clear hF; intro a hF
              refine ha_s 27 hF rfl rfl rfl (wn_f hF rfl rfl rfl rfl) (.inr hSS) ?_
              clear hF; intro a hF
              refine ha_s 28 hF rfl rfl rfl (wn_f hF rfl rfl rfl rfl) (.inr hSS) ?_
              clear hF; intro a hF
              refine ha_s 29 hF rfl rfl rfl (wn_f hF rfl rfl rfl rfl) (.inr hSS) ?_
              clear hF; intro a hF
              refine ha_s 30 hF rfl rfl rfl (wn_f hF rfl rfl rfl rfl) (.inr hSS) ?_
              clear hF; intro a hF
              refine ha_s 31 hF rfl rfl rfl (wn_f hF rfl rfl rfl rfl) (.inr hSS) ?_
              clear hF; intro a hF
              refine ha_y 32 hF rfl rfl rfl (wn_t hF rfl rfl rfl rfl) (.inr hSS) (yl_pick (u := _) (v := undef) hF rfl rfl (fun _ => rfl) (fun h => by cases h)) ?_
              clear hF; intro a hF
              refine ha_y 33 hF rfl rfl rfl (wn_t hF rfl rfl rfl rfl) (.inr hSS) (yl_pick (u := _) (v := undef) hF rfl rfl (fun _ => rfl) (fun h => by cases h)) ?_
              clear hF; intro a hF
              refine ha_y 34 hF rfl rfl rfl (wn_none rfl) (.inr hSS) (yl_pick (u := _) (v := undef) hF rfl rfl (fun h => by cases h) (fun _ => rfl)) ?_
              clear hF; intro a hF
              refine ha_done (by kernel_rfl) ?_ _
              refine then_n ?_
              refine c_cond_t hF rfl ?_
              refine c_seq ?_
              refine c_region ?_
              refine seq_yl hF (wn_none rfl) rfl rfl (yl_loadK (rs := [_, _, _]) (fun _ h => h ▸ hS) hF rfl rfl 1 rfl ag24 sz24 rfl rfl) ?_
              clear hF; intro a hF
              refine seq_wp (wn_none rfl) (wp_call (vs := [_, _, _]) hF rfl rfl rfl rfl cf28 (withN _ L (r) (c) _ (hS.rdRo 2 rfl) (by first | omega | (simp; done) | (simp; omega))) ?_)
              clear hF; rintro _ w ⟨v107, rfl, hS1⟩ a hF
              replace hS := hS.callB hS1 rfl; clear hS1
              obtain ⟨Av107, cv107, rfl⟩ := hS.form 0 rfl
              refine seq_wp (wn_none rfl) (wp_store (cs' := #[_, _, _]) hF hS rfl rfl rfl rfl 1 rfl sz24 (by simp [Value.cells, Value.oneCell']) (by simp [Value.cells]) rfl ?_)
              clear hF hS; intro a w hF hS
              refine seq_yl hF (wn_none rfl) rfl rfl (yl_assign hF rfl rfl) ?_
              clear hF; intro a hF
              refine seq_yl hF (wn_none rfl) rfl rfl (yl_assign hF rfl rfl) ?_
              clear hF; intro a hF
              refine wpList_nil ?_
              refine then_n ?_
              refine wp_ret ?_
              refine then_r ?_
              refine ret_ctt hF rfl (resC hS rfl 1 rfl ag24 sz24) rfl rfl ?_
              exact ⟨_, rfl, _, _, _, _, rfl, get_no (by first | exact .inl (by omega) | exact .inr (.inl (by omega)) | exact .inr (.inr ⟨by assumption, by omega⟩) | exact .inr (.inl (count_no (by assumption)))), (hS.sub [0] (by decide) (by first | rfl | simp) (by simp))⟩
            · first | (replace hc106 := of_decide_eq_false hc106) | (replace hc106 := of_decide_eq_true (bnot_f hc106)) | (replace hc106 := bnot_f hc106) | skip
              refine ha_y 27 hF rfl rfl rfl (wn_t hF rfl rfl rfl rfl) (.inr hSS) (yl_move hF rfl rfl) ?_
              clear hF; intro a hF
              refine ha_y 29 hF rfl rfl rfl (wn_t hF rfl rfl rfl rfl) (.inr hSS) (yl_fieldAddr hF rfl rfl (fun w => by kernel_rfl : ∀ w, (Instr.fieldAt 24 (.pointer (some ⟨g93, 0, none⟩)) 2).run Try.prog w = .ok (.pointer (some ⟨g93, 2, none⟩)) w)) ?_
              clear hF; intro a hF
              refine ha_l 26 hF rfl rfl rfl (wn_t hF rfl rfl rfl rfl) hSS (yl_loadK (rs := [_, _, _]) (fun _ h => h) hF rfl rfl 0 rfl ag24 sz24 rfl rfl) ?_
              clear hF; intro a hF
              refine ha_l 30 hF rfl rfl rfl (wn_t hF rfl rfl rfl rfl) hSS (yl_load (fun _ h => h) hF rfl rfl 0 rfl ag3 rfl) ?_
              clear hF; intro a hF
              have hc108 := held_in L (r) (c) (t)
              refine ha_one 28 (by kernel_rfl) rfl (wn_t hF rfl rfl rfl rfl) (wp_call (vs := [_, _]) hF rfl rfl rfl rfl cf21 (held2 _ L (r) (c) (t) _ (hS.rdRo 2 rfl) (by first | omega | (simp; done) | (simp; omega))) ?_)
              clear hF; rintro _ w ⟨rfl, hS1⟩ a hF
              replace hS := hS.callB hS1 rfl; clear hS1
              replace hSS := hS.sub [1] (by decide) rfl (by simp)
              refine ⟨.inr hSS, ?_⟩
              refine ha_y 31 hF rfl rfl rfl (wn_t hF rfl rfl rfl rfl) (.inr hSS) (yl_bin hF rfl rfl rfl rfl (fun _ => run_geq)) ?_
              clear hF; intro a hF
              refine ha_y 32 hF rfl rfl rfl (wn_t hF rfl rfl rfl rfl) (.inr hSS) (yl_pick (u := _) (v := undef) hF rfl rfl (fun h => by cases h) (fun _ => rfl)) ?_
              clear hF; intro a hF
              refine ha_y 33 hF rfl rfl rfl (wn_t hF rfl rfl rfl rfl) (.inr hSS) (yl_pick (u := _) (v := undef) hF rfl rfl (fun _ => rfl) (fun h => by cases h)) ?_
              clear hF; intro a hF
              refine ha_y 34 hF rfl rfl rfl (wn_none rfl) (.inr hSS) (yl_pick (u := _) (v := undef) hF rfl rfl (fun h => by cases h) (fun _ => rfl)) ?_
              clear hF; intro a hF
              refine ha_done (by kernel_rfl) ?_ _
              refine then_n ?_
              refine c_cond hF rfl (fun hc109 => ?_) (fun hc109 => ?_)
              · first | (replace hc109 := of_decide_eq_true hc109) | (replace hc109 := of_decide_eq_false (bnot_t hc109)) | (replace hc109 := bnot_t hc109) | skip
                refine c_seq ?_
                refine c_region ?_
                refine seq_yl hF (wn_none rfl) rfl rfl (yl_loadK (rs := [_, _, _]) (fun _ h => h ▸ hS) hF rfl rfl 1 rfl ag24 sz24 rfl rfl) ?_
                clear hF; intro a hF
                refine seq_wp (wn_none rfl) (wp_call (vs := [_, _, _]) hF rfl rfl rfl rfl cf28 (withN _ L (r) (c) _ (hS.rdRo 2 rfl) (by first | omega | (simp; done) | (simp; omega))) ?_)
                clear hF; rintro _ w ⟨v110, rfl, hS1⟩ a hF
                replace hS := hS.callB hS1 rfl; clear hS1
                obtain ⟨Av110, cv110, rfl⟩ := hS.form 0 rfl
                refine seq_wp (wn_none rfl) (wp_store (cs' := #[_, _, _]) hF hS rfl rfl rfl rfl 1 rfl sz24 (by simp [Value.cells, Value.oneCell']) (by simp [Value.cells]) rfl ?_)
                clear hF hS; intro a w hF hS
                refine seq_yl hF (wn_none rfl) rfl rfl (yl_assign hF rfl rfl) ?_
                clear hF; intro a hF
                refine seq_yl hF (wn_none rfl) rfl rfl (yl_assign hF rfl rfl) ?_
                clear hF; intro a hF
                refine wpList_nil ?_
                refine then_n ?_
                refine wp_ret ?_
                refine then_r ?_
                refine ret_ctt hF rfl (resC hS rfl 1 rfl ag24 sz24) rfl rfl ?_
                exact ⟨_, rfl, _, _, _, _, rfl, get_no (by first | exact .inl (by omega) | exact .inr (.inl (by omega)) | exact .inr (.inr ⟨by assumption, by omega⟩) | exact .inr (.inl (count_no (by assumption)))), (hS.sub [0] (by decide) (by first | rfl | simp) (by simp))⟩
              · first | (replace hc109 := of_decide_eq_false hc109) | (replace hc109 := of_decide_eq_true (bnot_f hc109)) | (replace hc109 := bnot_f hc109) | skip
                refine wp_skip ?_
                refine then_n ?_
                refine c_seq ?_
                refine c_region ?_
                refine seq_yl hF (wn_none rfl) rfl rfl (yl_assign hF rfl rfl) ?_
                clear hF; intro a hF
                refine wpList_nil ?_
                refine then_n ?_
                refine c_seq ?_
                refine wp_block ?_
                have hng : ¬ badG L r c t u := notbad (by omega) (by omega) (by first | exact .inl (by assumption) | exact .inr (by omega))
                obtain ⟨hval, hmem⟩ := free_valid (show ¬ countF L r c (-1) = 0 by omega)
                refine c_loop (fun m a w => ∃ (k : Nat), m = L.length - k ∧ (k ≤ L.length ∧ ∀ y ∈ L.take k, y ≠ -1) ∧ Fr 60 a [(1, .int .i64 (t)), (3, .pointer (some ⟨g93, 0, none⟩)), (6, .pointer (some ⟨g94, 0, none⟩)), (9, .int .i64 ((k : Nat) : Int))] ∧ Sat w0 w (.box g93 24 #[.slice Av (L).length cv, .int .i64 (r), .int .i64 (c)] :: .box g94 24 #[.slice none 0 0, .int .i64 (0 : Int), .int .i64 (0 : Int)] :: .ro 1 (.slice Av (L).length cv) (L).length (cells encI (L)) :: [])) (L.length - 0) ?_ ?_
                · exact ⟨0, rfl, ⟨Nat.zero_le _, by simp⟩, hF.to [1, 3, 6, 9] rfl, (hS.sub [1, 0, 2] (by decide) (by first | rfl | simp) (by simp))⟩
                · clear hF hS; try clear hSS
                  clear a w; rintro m a w ⟨k, rfl, hinv, hF, hS⟩
                  have hk := hinv.1
                  have hkl := free_lt hmem hinv.2
                  refine c_seq ?_
                  refine c_seq ?_
                  refine c_region ?_
                  refine seq_yl hF (wn_none rfl) rfl rfl (yl_fieldAddr hF rfl rfl (fun w => by kernel_rfl : ∀ w, (Instr.fieldAt 24 (.pointer (some ⟨g93, 0, none⟩)) 0).run Try.prog w = .ok (.pointer (some ⟨g93, 0, none⟩)) w)) ?_
                  clear hF; intro a hF
                  refine seq_yl hF (wn_none rfl) rfl rfl (yl_load (fun _ h => h ▸ hS) hF rfl rfl 0 rfl ag22 rfl) ?_
                  clear hF; intro a hF
                  refine seq_yl hF (wn_none rfl) rfl rfl (yl_move hF rfl rfl) ?_
                  clear hF; intro a hF
                  have hlt_hx111 : k < (L).length := by first | omega | (simp; done) | (simp; omega)
                  obtain ⟨ad112, rfl⟩ := rd_some (hS.rdRo 2 rfl) hlt_hx111
                  obtain ⟨x111, hx111⟩ := get_some hlt_hx111
                  refine seq_yl hF (wn_none rfl) rfl rfl (yl_indexAddr hF rfl rfl rfl (fun _ => run_idx' sl22 sz3 (hS.rdRo 2 rfl) hlt_hx111)) ?_
                  clear hF; intro a hF
                  refine seq_yl hF (wn_none rfl) rfl rfl (yl_loadAt hF rfl rfl ag3 (fun _ h => rd_cell0 (enc := encI) (by subst h; exact hS.rdRo 2 rfl) encI_len hx111 rfl rfl)) ?_
                  clear hF; intro a hF
                  refine seq_yl hF (wn_none rfl) rfl rfl (yl_bin hF rfl rfl rfl rfl (fun _ => run_neq)) ?_
                  clear hF; intro a hF
                  refine wpList_nil ?_
                  refine then_n ?_
                  refine c_cond hF rfl (fun hc113 => ?_) (fun hc113 => ?_)
                  · first | (replace hc113 := of_decide_eq_true hc113) | (replace hc113 := of_decide_eq_false (bnot_t hc113)) | (replace hc113 := bnot_t hc113) | skip
                    refine wp_skip ?_
                    refine then_n ?_
                    refine wp_block ?_
                    refine c_region ?_
                    refine seq_yl hF (wn_none rfl) rfl rfl (yl_move hF rfl rfl) ?_
                    clear hF; intro a hF
                    refine seq_yl hF (wn_none rfl) rfl rfl (yl_bin hF rfl rfl rfl rfl (fun _ => run_inc (by omega))) ?_
                    clear hF; intro a hF
                    refine seq_yl hF (wn_none rfl) rfl rfl (yl_assign hF rfl rfl) ?_
                    clear hF; intro a hF
                    refine wpList_nil ?_
                    refine inb_n ?_
                    refine then_n ?_
                    exact ⟨_, (by omega), k + 1, rfl, ⟨by omega, ne_step hx111 (by omega) hinv.2⟩, hF.to [1, 3, 6, 9] rfl, (hS.sub [0, 1, 2] (by decide) (by first | rfl | simp) (by simp))⟩
                  · first | (replace hc113 := of_decide_eq_false hc113) | (replace hc113 := of_decide_eq_true (bnot_f hc113)) | (replace hc113 := bnot_f hc113) | skip
                    refine wp_exit ?_
                    refine then_x ?_
                    refine then_x ?_
                    refine inb_x ?_
                    refine then_n ?_
                    refine c_seq ?_
                    refine c_region ?_
                    refine seq_yl hF (wn_none rfl) rfl rfl (yl_loadK (rs := [_, _, _]) (fun _ h => h ▸ hS) hF rfl rfl 0 rfl ag24 sz24 rfl rfl) ?_
                    clear hF; intro a hF
                    refine seq_yl hF (wn_none rfl) rfl rfl (yl_move hF rfl rfl) ?_
                    clear hF; intro a hF
                    refine seq_yl hF (wn_none rfl) rfl rfl (yl_move hF rfl rfl) ?_
                    clear hF; intro a hF
                    refine seq_wp (wn_none rfl) (wp_call (vs := [_, _, _]) hF rfl rfl rfl rfl cf28 (withK _ L (r) (c) (t) k (by omega) _ (hS.rdRo 2 rfl) (by first | omega | (simp; done) | (simp; omega))) ?_)
                    clear hF; rintro _ w ⟨v114, rfl, hS1⟩ a hF
                    replace hS := hS.callB hS1 rfl; clear hS1
                    obtain ⟨Av114, cv114, rfl⟩ := hS.form 0 rfl
                    refine seq_yl hF (wn_none rfl) rfl rfl (yl_move hF rfl rfl) ?_
                    clear hF; intro a hF
                    refine seq_wp (wn_none rfl) (wp_store (cs' := #[_, _, _]) hF hS rfl rfl rfl rfl 2 rfl sz24 (by simp [Value.cells, Value.oneCell']) (by simp [Value.cells]) rfl ?_)
                    clear hF hS; intro a w hF hS
                    refine seq_yl hF (wn_none rfl) rfl rfl (yl_assign hF rfl rfl) ?_
                    clear hF; intro a hF
                    refine seq_yl hF (wn_none rfl) rfl rfl (yl_assign hF rfl rfl) ?_
                    clear hF; intro a hF
                    refine wpList_nil ?_
                    refine then_n ?_
                    refine wp_ret ?_
                    refine ret_ctt hF rfl (resC hS rfl 2 rfl ag24 sz24) rfl rfl ?_
                    exact ⟨_, rfl, _, _, _, _, rfl, get_at hng hx111 (by omega) hinv.2, (hS.sub [0] (by decide) (by first | rfl | simp) (by simp))⟩
          · first | (replace hc104 := of_decide_eq_false hc104) | (replace hc104 := of_decide_eq_true (bnot_f hc104)) | (replace hc104 := bnot_f hc104) | skip
            refine ha_s 20 hF rfl rfl rfl (wn_f hF rfl rfl rfl rfl) (.inr hSS) ?_
            clear hF; intro a hF
            refine ha_s 21 hF rfl rfl rfl (wn_f hF rfl rfl rfl rfl) (.inr hSS) ?_
            clear hF; intro a hF
            refine ha_s 22 hF rfl rfl rfl (wn_f hF rfl rfl rfl rfl) (.inr hSS) ?_
            clear hF; intro a hF
            refine ha_s 23 hF rfl rfl rfl (wn_f hF rfl rfl rfl rfl) (.inr hSS) ?_
            clear hF; intro a hF
            refine ha_s 24 hF rfl rfl rfl (wn_f hF rfl rfl rfl rfl) (.inr hSS) ?_
            clear hF; intro a hF
            refine ha_s 25 hF rfl rfl rfl (wn_f hF rfl rfl rfl rfl) (.inr hSS) ?_
            clear hF; intro a hF
            refine ha_s 26 hF rfl rfl rfl (wn_u hF rfl rfl rfl rfl) (.inr hSS) ?_
            clear hF; intro a hF
            refine ha_s 27 hF rfl rfl rfl (wn_u hF rfl rfl rfl rfl) (.inr hSS) ?_
            clear hF; intro a hF
            refine ha_s 28 hF rfl rfl rfl (wn_u hF rfl rfl rfl rfl) (.inr hSS) ?_
            clear hF; intro a hF
            refine ha_s 29 hF rfl rfl rfl (wn_u hF rfl rfl rfl rfl) (.inr hSS) ?_
            clear hF; intro a hF
            refine ha_s 30 hF rfl rfl rfl (wn_u hF rfl rfl rfl rfl) (.inr hSS) ?_
            clear hF; intro a hF
            refine ha_s 31 hF rfl rfl rfl (wn_u hF rfl rfl rfl rfl) (.inr hSS) ?_
            clear hF; intro a hF
            refine ha_s 32 hF rfl rfl rfl (wn_f hF rfl rfl rfl rfl) (.inr hSS) ?_
            clear hF; intro a hF
            refine ha_y 33 hF rfl rfl rfl (wn_t hF rfl rfl rfl rfl) (.inr hSS) (yl_pick (u := _) (v := undef) hF rfl rfl (fun h => by cases h) (fun _ => rfl)) ?_
            clear hF; intro a hF
            refine ha_y 34 hF rfl rfl rfl (wn_none rfl) (.inr hSS) (yl_pick (u := _) (v := undef) hF rfl rfl (fun h => by cases h) (fun _ => rfl)) ?_
            clear hF; intro a hF
            refine ha_done (by kernel_rfl) ?_ _
            refine then_n ?_
            refine c_cond_f hF rfl ?_
            refine wp_skip ?_
            refine then_n ?_
            refine c_seq ?_
            refine c_region ?_
            refine seq_yl hF (wn_none rfl) rfl rfl (yl_assign hF rfl rfl) ?_
            clear hF; intro a hF
            refine wpList_nil ?_
            refine then_n ?_
            refine c_seq ?_
            refine wp_block ?_
            have hng : ¬ badG L r c t u := notbad (by omega) (by omega) (by first | exact .inl (by assumption) | exact .inr (by omega))
            obtain ⟨hval, hmem⟩ := free_valid (show ¬ countF L r c (-1) = 0 by omega)
            refine c_loop (fun m a w => ∃ (k : Nat), m = L.length - k ∧ (k ≤ L.length ∧ ∀ y ∈ L.take k, y ≠ -1) ∧ Fr 60 a [(1, .int .i64 (t)), (3, .pointer (some ⟨g93, 0, none⟩)), (6, .pointer (some ⟨g94, 0, none⟩)), (9, .int .i64 ((k : Nat) : Int))] ∧ Sat w0 w (.box g93 24 #[.slice Av (L).length cv, .int .i64 (r), .int .i64 (c)] :: .box g94 24 #[.slice none 0 0, .int .i64 (0 : Int), .int .i64 (0 : Int)] :: .ro 1 (.slice Av (L).length cv) (L).length (cells encI (L)) :: [])) (L.length - 0) ?_ ?_
            · exact ⟨0, rfl, ⟨Nat.zero_le _, by simp⟩, hF.to [1, 3, 6, 9] rfl, (hS.sub [1, 0, 2] (by decide) (by first | rfl | simp) (by simp))⟩
            · clear hF hS; try clear hSS
              clear a w; rintro m a w ⟨k, rfl, hinv, hF, hS⟩
              have hk := hinv.1
              have hkl := free_lt hmem hinv.2
              refine c_seq ?_
              refine c_seq ?_
              refine c_region ?_
              refine seq_yl hF (wn_none rfl) rfl rfl (yl_fieldAddr hF rfl rfl (fun w => by kernel_rfl : ∀ w, (Instr.fieldAt 24 (.pointer (some ⟨g93, 0, none⟩)) 0).run Try.prog w = .ok (.pointer (some ⟨g93, 0, none⟩)) w)) ?_
              clear hF; intro a hF
              refine seq_yl hF (wn_none rfl) rfl rfl (yl_load (fun _ h => h ▸ hS) hF rfl rfl 0 rfl ag22 rfl) ?_
              clear hF; intro a hF
              refine seq_yl hF (wn_none rfl) rfl rfl (yl_move hF rfl rfl) ?_
              clear hF; intro a hF
              have hlt_hx115 : k < (L).length := by first | omega | (simp; done) | (simp; omega)
              obtain ⟨ad116, rfl⟩ := rd_some (hS.rdRo 2 rfl) hlt_hx115
              obtain ⟨x115, hx115⟩ := get_some hlt_hx115
              refine seq_yl hF (wn_none rfl) rfl rfl (yl_indexAddr hF rfl rfl rfl (fun _ => run_idx' sl22 sz3 (hS.rdRo 2 rfl) hlt_hx115)) ?_
              clear hF; intro a hF
              refine seq_yl hF (wn_none rfl) rfl rfl (yl_loadAt hF rfl rfl ag3 (fun _ h => rd_cell0 (enc := encI) (by subst h; exact hS.rdRo 2 rfl) encI_len hx115 rfl rfl)) ?_
              clear hF; intro a hF
              refine seq_yl hF (wn_none rfl) rfl rfl (yl_bin hF rfl rfl rfl rfl (fun _ => run_neq)) ?_
              clear hF; intro a hF
              refine wpList_nil ?_
              refine then_n ?_
              refine c_cond hF rfl (fun hc117 => ?_) (fun hc117 => ?_)
              · first | (replace hc117 := of_decide_eq_true hc117) | (replace hc117 := of_decide_eq_false (bnot_t hc117)) | (replace hc117 := bnot_t hc117) | skip
                refine wp_skip ?_
                refine then_n ?_
                refine wp_block ?_
                refine c_region ?_
                refine seq_yl hF (wn_none rfl) rfl rfl (yl_move hF rfl rfl) ?_
                clear hF; intro a hF
                refine seq_yl hF (wn_none rfl) rfl rfl (yl_bin hF rfl rfl rfl rfl (fun _ => run_inc (by omega))) ?_
                clear hF; intro a hF
                refine seq_yl hF (wn_none rfl) rfl rfl (yl_assign hF rfl rfl) ?_
                clear hF; intro a hF
                refine wpList_nil ?_
                refine inb_n ?_
                refine then_n ?_
                exact ⟨_, (by omega), k + 1, rfl, ⟨by omega, ne_step hx115 (by omega) hinv.2⟩, hF.to [1, 3, 6, 9] rfl, (hS.sub [0, 1, 2] (by decide) (by first | rfl | simp) (by simp))⟩
              · first | (replace hc117 := of_decide_eq_false hc117) | (replace hc117 := of_decide_eq_true (bnot_f hc117)) | (replace hc117 := bnot_f hc117) | skip
                refine wp_exit ?_
                refine then_x ?_
                refine then_x ?_
                refine inb_x ?_
                refine then_n ?_
                refine c_seq ?_
                refine c_region ?_
                refine seq_yl hF (wn_none rfl) rfl rfl (yl_loadK (rs := [_, _, _]) (fun _ h => h ▸ hS) hF rfl rfl 0 rfl ag24 sz24 rfl rfl) ?_
                clear hF; intro a hF
                refine seq_yl hF (wn_none rfl) rfl rfl (yl_move hF rfl rfl) ?_
                clear hF; intro a hF
                refine seq_yl hF (wn_none rfl) rfl rfl (yl_move hF rfl rfl) ?_
                clear hF; intro a hF
                refine seq_wp (wn_none rfl) (wp_call (vs := [_, _, _]) hF rfl rfl rfl rfl cf28 (withK _ L (r) (c) (t) k (by omega) _ (hS.rdRo 2 rfl) (by first | omega | (simp; done) | (simp; omega))) ?_)
                clear hF; rintro _ w ⟨v118, rfl, hS1⟩ a hF
                replace hS := hS.callB hS1 rfl; clear hS1
                obtain ⟨Av118, cv118, rfl⟩ := hS.form 0 rfl
                refine seq_yl hF (wn_none rfl) rfl rfl (yl_move hF rfl rfl) ?_
                clear hF; intro a hF
                refine seq_wp (wn_none rfl) (wp_store (cs' := #[_, _, _]) hF hS rfl rfl rfl rfl 2 rfl sz24 (by simp [Value.cells, Value.oneCell']) (by simp [Value.cells]) rfl ?_)
                clear hF hS; intro a w hF hS
                refine seq_yl hF (wn_none rfl) rfl rfl (yl_assign hF rfl rfl) ?_
                clear hF; intro a hF
                refine seq_yl hF (wn_none rfl) rfl rfl (yl_assign hF rfl rfl) ?_
                clear hF; intro a hF
                refine wpList_nil ?_
                refine then_n ?_
                refine wp_ret ?_
                refine ret_ctt hF rfl (resC hS rfl 2 rfl ag24 sz24) rfl rfl ?_
                exact ⟨_, rfl, _, _, _, _, rfl, get_at hng hx115 (by omega) hinv.2, (hS.sub [0] (by decide) (by first | rfl | simp) (by simp))⟩

set_option maxRecDepth 100000 in
theorem put1 (v : Value) (L : List Int) (r c k : Int) (w0 : World) (hv : Rd w0 1 v (L).length (cells encI (L))) (hL : L.length ≤ 1000000) :
    Fn Try.prog 16 #[.agg #[v, .int .i64 r, .int .i64 c], .int .i64 k] w0 (fun v w' => ∃ (v1 : Value) (L1 : List Int) (b : Bool), v = .tuple #[.agg #[v1, .int .i64 r, .int .i64 c], .bool b] ∧ putF L r c k = (L1, b) ∧ Sat w0 w' [.row 3 1 v1 (L1).length (cells encI (L1))]) := by
  obtain ⟨Av, cv, rfl⟩ := Rd.form hv
  refine c_enter (N := 38) (l := [_, _]) Try.func16 rfl rfl (fun a w hF hS => ?_)
  replace hS := hS.addRo hv
  refine c_seq ?_
  refine c_region ?_
  refine seq_wp (wn_none rfl) (wp_box (cs := #[_, _, _]) hF hS rfl rfl rfl rfl rfl ?_)
  clear hF hS; intro a w g119 hF hS
  refine seq_wp (wn_none rfl) (wp_alloc (cs := #[_, _, _]) hF hS rfl rfl rfl zr24 rfl ?_)
  clear hF hS; intro a w g120 hF hS
  refine seq_yl hF (wn_none rfl) rfl rfl (yl_assign hF rfl rfl) ?_
  clear hF; intro a hF
  refine wpList_nil ?_
  refine then_n ?_
  refine c_seq ?_
  refine c_region ?_
  refine seq_yl hF (wn_none rfl) rfl rfl (yl_fieldAddr hF rfl rfl (fun w => by kernel_rfl : ∀ w, (Instr.fieldAt 24 (.pointer (some ⟨g119, 0, none⟩)) 0).run Try.prog w = .ok (.pointer (some ⟨g119, 0, none⟩)) w)) ?_
  clear hF; intro a hF
  refine seq_yl hF (wn_none rfl) rfl rfl (yl_load (fun _ h => h ▸ hS) hF rfl rfl 1 rfl ag22 rfl) ?_
  clear hF; intro a hF
  refine seq_wp (wn_none rfl) (wp_call (vs := [_]) hF rfl rfl rfl rfl cf23 (clone_any _ _ _ (hS.rdRo 2 rfl) (by first | omega | (simp; done) | (simp; omega))) ?_)
  clear hF; rintro _ w ⟨v121, rfl, hS1⟩ a hF
  replace hS := hS.callB hS1 rfl; clear hS1
  obtain ⟨Av121, cv121, rfl⟩ := hS.form 0 rfl
  refine seq_yl hF (wn_none rfl) rfl rfl (yl_fieldAddr hF rfl rfl (fun w => by kernel_rfl : ∀ w, (Instr.fieldAt 24 (.pointer (some ⟨g119, 0, none⟩)) 0).run Try.prog w = .ok (.pointer (some ⟨g119, 0, none⟩)) w)) ?_
  clear hF; intro a hF
  refine seq_wp (wn_none rfl) (wp_store (cs' := #[_, _, _]) hF hS rfl rfl rfl rfl 2 rfl sz22 (by simp [Value.cells, Value.oneCell']) (by simp [Value.cells]) rfl ?_)
  clear hF hS; intro a w hF hS
  refine wpList_nil ?_
  refine then_n ?_
  refine c_seq ?_
  refine c_seq ?_
  refine c_region ?_
  refine seq_yl hF (wn_none rfl) rfl rfl (yl_loadK (rs := [_, _, _]) (fun _ h => h ▸ hS) hF rfl rfl 2 rfl ag24 sz24 rfl rfl) ?_
  clear hF; intro a hF
  refine seq_wp (wn_none rfl) (wp_call (vs := [_]) hF rfl rfl rfl rfl cf18 (valid1 _ L (r) (c) _ (hS.rdRow 0 rfl) (by first | omega | (simp; done) | (simp; omega))) ?_)
  clear hF; rintro _ w ⟨rfl, hS1⟩ a hF
  replace hS := hS.callB hS1 rfl; clear hS1
  refine seq_yl hF (wn_none rfl) rfl rfl (yl_un hF rfl rfl (fun _ => run_not)) ?_
  clear hF; intro a hF
  refine seq_yl hF (wn_none rfl) rfl rfl (yl_move hF rfl rfl) ?_
  clear hF; intro a hF
  refine fr_split hF (fun hc122 hF => ?_) (fun hc122 hF => ?_)
  · first | (replace hc122 := of_decide_eq_true hc122) | (replace hc122 := of_decide_eq_false (bnot_t hc122)) | (subst hc122) | (replace hc122 := bnot_t hc122; subst hc122) | (replace hc122 := bnot_t hc122) | skip
    refine seq_skip hF (wn_f hF rfl rfl rfl rfl) rfl rfl ?_
    clear hF; intro a hF
    refine seq_skip hF (wn_f hF rfl rfl rfl rfl) rfl rfl ?_
    clear hF; intro a hF
    refine seq_yl hF (wn_none rfl) rfl rfl (yl_pick (u := _) (v := undef) hF rfl rfl (fun _ => rfl) (fun h => by cases h)) ?_
    clear hF; intro a hF
    refine seq_yl hF (wn_none rfl) rfl rfl (yl_move hF rfl rfl) ?_
    clear hF; intro a hF
    refine seq_skip hF (wn_f hF rfl rfl rfl rfl) rfl rfl ?_
    clear hF; intro a hF
    refine seq_skip hF (wn_f hF rfl rfl rfl rfl) rfl rfl ?_
    clear hF; intro a hF
    refine seq_skip hF (wn_f hF rfl rfl rfl rfl) rfl rfl ?_
    clear hF; intro a hF
    refine seq_skip hF (wn_f hF rfl rfl rfl rfl) rfl rfl ?_
    clear hF; intro a hF
    refine seq_skip hF (wn_f hF rfl rfl rfl rfl) rfl rfl ?_
    clear hF; intro a hF
    refine seq_yl hF (wn_none rfl) rfl rfl (yl_pick (u := _) (v := undef) hF rfl rfl (fun _ => rfl) (fun h => by cases h)) ?_
    clear hF; intro a hF
    refine seq_yl hF (wn_none rfl) rfl rfl (yl_move hF rfl rfl) ?_
    clear hF; intro a hF
    refine seq_skip hF (wn_f hF rfl rfl rfl rfl) rfl rfl ?_
    clear hF; intro a hF
    refine seq_skip hF (wn_f hF rfl rfl rfl rfl) rfl rfl ?_
    clear hF; intro a hF
    refine seq_skip hF (wn_f hF rfl rfl rfl rfl) rfl rfl ?_
    clear hF; intro a hF
    refine seq_skip hF (wn_f hF rfl rfl rfl rfl) rfl rfl ?_
    clear hF; intro a hF
    refine seq_skip hF (wn_f hF rfl rfl rfl rfl) rfl rfl ?_
    clear hF; intro a hF
    refine seq_skip hF (wn_f hF rfl rfl rfl rfl) rfl rfl ?_
    clear hF; intro a hF
    refine seq_yl hF (wn_none rfl) rfl rfl (yl_pick (u := _) (v := undef) hF rfl rfl (fun _ => rfl) (fun h => by cases h)) ?_
    clear hF; intro a hF
    refine wpList_nil ?_
    refine then_n ?_
    refine c_cond_t hF rfl ?_
    refine c_seq ?_
    refine c_region ?_
    refine seq_yl hF (wn_none rfl) rfl rfl (yl_loadK (rs := [_, _, _]) (fun _ h => h ▸ hS) hF rfl rfl 2 rfl ag24 sz24 rfl rfl) ?_
    clear hF; intro a hF
    refine seq_wp (wn_none rfl) (wp_store (cs' := #[_, _, _]) hF hS rfl rfl rfl rfl 1 rfl sz24 (by simp [Value.cells, Value.oneCell']) (by simp [Value.cells]) rfl ?_)
    clear hF hS; intro a w hF hS
    refine seq_yl hF (wn_none rfl) rfl rfl (yl_assign hF rfl rfl) ?_
    clear hF; intro a hF
    refine wpList_nil ?_
    refine then_n ?_
    refine wp_ret ?_
    refine then_r ?_
    refine ret_ct hF rfl (resC hS rfl 1 rfl ag24 sz24) rfl ?_
    exact ⟨_, rfl, _, _, _, rfl, by first | exact put_no (.inl (by assumption)) | exact put_no (.inr (by omega)) | exact put_free rfl (by omega), (hS.sub [0] (by decide) (by first | rfl | simp) (by simp))⟩
  · first | (replace hc122 := of_decide_eq_false hc122) | (replace hc122 := of_decide_eq_true (bnot_f hc122)) | (subst hc122) | (replace hc122 := bnot_f hc122; subst hc122) | (replace hc122 := bnot_f hc122) | skip
    refine seq_yl hF (wn_t hF rfl rfl rfl rfl) rfl rfl (yl_move hF rfl rfl) ?_
    clear hF; intro a hF
    refine seq_yl hF (wn_t hF rfl rfl rfl rfl) rfl rfl (yl_bin hF rfl rfl rfl rfl (fun _ => run_lss)) ?_
    clear hF; intro a hF
    refine seq_yl hF (wn_none rfl) rfl rfl (yl_pick (u := _) (v := undef) hF rfl rfl (fun h => by cases h) (fun _ => rfl)) ?_
    clear hF; intro a hF
    refine seq_yl hF (wn_none rfl) rfl rfl (yl_move hF rfl rfl) ?_
    clear hF; intro a hF
    refine fr_split hF (fun hc123 hF => ?_) (fun hc123 hF => ?_)
    · first | (replace hc123 := of_decide_eq_true hc123) | (replace hc123 := of_decide_eq_false (bnot_t hc123)) | (subst hc123) | (replace hc123 := bnot_t hc123; subst hc123) | (replace hc123 := bnot_t hc123) | skip
      refine seq_skip hF (wn_f hF rfl rfl rfl rfl) rfl rfl ?_
      clear hF; intro a hF
      refine seq_skip hF (wn_f hF rfl rfl rfl rfl) rfl rfl ?_
      clear hF; intro a hF
      refine seq_skip hF (wn_f hF rfl rfl rfl rfl) rfl rfl ?_
      clear hF; intro a hF
      refine seq_skip hF (wn_f hF rfl rfl rfl rfl) rfl rfl ?_
      clear hF; intro a hF
      refine seq_skip hF (wn_f hF rfl rfl rfl rfl) rfl rfl ?_
      clear hF; intro a hF
      refine seq_yl hF (wn_none rfl) rfl rfl (yl_pick (u := _) (v := undef) hF rfl rfl (fun _ => rfl) (fun h => by cases h)) ?_
      clear hF; intro a hF
      refine seq_yl hF (wn_none rfl) rfl rfl (yl_move hF rfl rfl) ?_
      clear hF; intro a hF
      refine seq_skip hF (wn_f hF rfl rfl rfl rfl) rfl rfl ?_
      clear hF; intro a hF
      refine seq_skip hF (wn_f hF rfl rfl rfl rfl) rfl rfl ?_
      clear hF; intro a hF
      refine seq_skip hF (wn_f hF rfl rfl rfl rfl) rfl rfl ?_
      clear hF; intro a hF
      refine seq_skip hF (wn_f hF rfl rfl rfl rfl) rfl rfl ?_
      clear hF; intro a hF
      refine seq_skip hF (wn_f hF rfl rfl rfl rfl) rfl rfl ?_
      clear hF; intro a hF
      refine seq_skip hF (wn_f hF rfl rfl rfl rfl) rfl rfl ?_
      clear hF; intro a hF
      refine seq_yl hF (wn_none rfl) rfl rfl (yl_pick (u := _) (v := undef) hF rfl rfl (fun _ => rfl) (fun h => by cases h)) ?_
      clear hF; intro a hF
      refine wpList_nil ?_
      refine then_n ?_
      refine c_cond_t hF rfl ?_
      refine c_seq ?_
      refine c_region ?_
      refine seq_yl hF (wn_none rfl) rfl rfl (yl_loadK (rs := [_, _, _]) (fun _ h => h ▸ hS) hF rfl rfl 2 rfl ag24 sz24 rfl rfl) ?_
      clear hF; intro a hF
      refine seq_wp (wn_none rfl) (wp_store (cs' := #[_, _, _]) hF hS rfl rfl rfl rfl 1 rfl sz24 (by simp [Value.cells, Value.oneCell']) (by simp [Value.cells]) rfl ?_)
      clear hF hS; intro a w hF hS
      refine seq_yl hF (wn_none rfl) rfl rfl (yl_assign hF rfl rfl) ?_
      clear hF; intro a hF
      refine wpList_nil ?_
      refine then_n ?_
      refine wp_ret ?_
      refine then_r ?_
      refine ret_ct hF rfl (resC hS rfl 1 rfl ag24 sz24) rfl ?_
      exact ⟨_, rfl, _, _, _, rfl, by first | exact put_no (.inl (by assumption)) | exact put_no (.inr (by omega)) | exact put_free rfl (by omega), (hS.sub [0] (by decide) (by first | rfl | simp) (by simp))⟩
    · first | (replace hc123 := of_decide_eq_false hc123) | (replace hc123 := of_decide_eq_true (bnot_f hc123)) | (subst hc123) | (replace hc123 := bnot_f hc123; subst hc123) | (replace hc123 := bnot_f hc123) | skip
      refine seq_yl hF (wn_t hF rfl rfl rfl rfl) rfl rfl (yl_move hF rfl rfl) ?_
      clear hF; intro a hF
      refine seq_yl hF (wn_t hF rfl rfl rfl rfl) rfl rfl (yl_fieldAddr hF rfl rfl (fun w => by kernel_rfl : ∀ w, (Instr.fieldAt 24 (.pointer (some ⟨g119, 0, none⟩)) 0).run Try.prog w = .ok (.pointer (some ⟨g119, 0, none⟩)) w)) ?_
      clear hF; intro a hF
      refine seq_yl hF (wn_t hF rfl rfl rfl rfl) rfl rfl (yl_load (fun _ h => h ▸ hS) hF rfl rfl 2 rfl ag22 rfl) ?_
      clear hF; intro a hF
      refine seq_yl hF (wn_t hF rfl rfl rfl rfl) rfl rfl (yl_len hF rfl rfl (fun _ => run_lenRd sl22 (hS.rdRow 0 rfl))) ?_
      clear hF; intro a hF
      refine seq_yl hF (wn_t hF rfl rfl rfl rfl) rfl rfl (yl_bin hF rfl rfl rfl rfl (fun _ => run_geq)) ?_
      clear hF; intro a hF
      refine seq_yl hF (wn_none rfl) rfl rfl (yl_pick (u := _) (v := undef) hF rfl rfl (fun h => by cases h) (fun _ => rfl)) ?_
      clear hF; intro a hF
      refine seq_yl hF (wn_none rfl) rfl rfl (yl_move hF rfl rfl) ?_
      clear hF; intro a hF
      refine fr_split hF (fun hc124 hF => ?_) (fun hc124 hF => ?_)
      · first | (replace hc124 := of_decide_eq_true hc124) | (replace hc124 := of_decide_eq_false (bnot_t hc124)) | (subst hc124) | (replace hc124 := bnot_t hc124; subst hc124) | (replace hc124 := bnot_t hc124) | skip
        refine seq_skip hF (wn_f hF rfl rfl rfl rfl) rfl rfl ?_
        clear hF; intro a hF
        refine seq_skip hF (wn_f hF rfl rfl rfl rfl) rfl rfl ?_
        clear hF; intro a hF
        refine seq_skip hF (wn_f hF rfl rfl rfl rfl) rfl rfl ?_
        clear hF; intro a hF
        refine seq_skip hF (wn_f hF rfl rfl rfl rfl) rfl rfl ?_
        clear hF; intro a hF
        refine seq_skip hF (wn_f hF rfl rfl rfl rfl) rfl rfl ?_
        clear hF; intro a hF
        refine seq_skip hF (wn_f hF rfl rfl rfl rfl) rfl rfl ?_
        clear hF; intro a hF
        refine seq_yl hF (wn_none rfl) rfl rfl (yl_pick (u := _) (v := undef) hF rfl rfl (fun _ => rfl) (fun h => by cases h)) ?_
        clear hF; intro a hF
        refine wpList_nil ?_
        refine then_n ?_
        refine c_cond_t hF rfl ?_
        refine c_seq ?_
        refine c_region ?_
        refine seq_yl hF (wn_none rfl) rfl rfl (yl_loadK (rs := [_, _, _]) (fun _ h => h ▸ hS) hF rfl rfl 2 rfl ag24 sz24 rfl rfl) ?_
        clear hF; intro a hF
        refine seq_wp (wn_none rfl) (wp_store (cs' := #[_, _, _]) hF hS rfl rfl rfl rfl 1 rfl sz24 (by simp [Value.cells, Value.oneCell']) (by simp [Value.cells]) rfl ?_)
        clear hF hS; intro a w hF hS
        refine seq_yl hF (wn_none rfl) rfl rfl (yl_assign hF rfl rfl) ?_
        clear hF; intro a hF
        refine wpList_nil ?_
        refine then_n ?_
        refine wp_ret ?_
        refine then_r ?_
        refine ret_ct hF rfl (resC hS rfl 1 rfl ag24 sz24) rfl ?_
        exact ⟨_, rfl, _, _, _, rfl, by first | exact put_no (.inl (by assumption)) | exact put_no (.inr (by omega)) | exact put_free rfl (by omega), (hS.sub [0] (by decide) (by first | rfl | simp) (by simp))⟩
      · first | (replace hc124 := of_decide_eq_false hc124) | (replace hc124 := of_decide_eq_true (bnot_f hc124)) | (subst hc124) | (replace hc124 := bnot_f hc124; subst hc124) | (replace hc124 := bnot_f hc124) | skip
        refine seq_yl hF (wn_t hF rfl rfl rfl rfl) rfl rfl (yl_fieldAddr hF rfl rfl (fun w => by kernel_rfl : ∀ w, (Instr.fieldAt 24 (.pointer (some ⟨g119, 0, none⟩)) 0).run Try.prog w = .ok (.pointer (some ⟨g119, 0, none⟩)) w)) ?_
        clear hF; intro a hF
        refine seq_yl hF (wn_t hF rfl rfl rfl rfl) rfl rfl (yl_load (fun _ h => h ▸ hS) hF rfl rfl 2 rfl ag22 rfl) ?_
        clear hF; intro a hF
        refine seq_yl hF (wn_t hF rfl rfl rfl rfl) rfl rfl (yl_move hF rfl rfl) ?_
        clear hF; intro a hF
        replace hF := fr_seti (b' := ((k.toNat : Nat) : Int)) hF (by omega)
        have hlt_hx125 : k.toNat < (L).length := by first | omega | (simp; done) | (simp; omega)
        obtain ⟨ad126, rfl⟩ := rd_some (hS.rdRow 0 rfl) hlt_hx125
        obtain ⟨x125, hx125⟩ := get_some hlt_hx125
        refine seq_yl hF (wn_t hF rfl rfl rfl rfl) rfl rfl (yl_indexAddr hF rfl rfl rfl (fun _ => run_idx' sl22 sz3 (hS.rdRow 0 rfl) hlt_hx125)) ?_
        clear hF; intro a hF
        refine seq_yl hF (wn_t hF rfl rfl rfl rfl) rfl rfl (yl_loadAt hF rfl rfl ag3 (fun _ h => rd_cell0 (enc := encI) (by subst h; exact hS.rdRow 0 rfl) encI_len hx125 rfl rfl)) ?_
        clear hF; intro a hF
        refine seq_yl hF (wn_t hF rfl rfl rfl rfl) rfl rfl (yl_bin hF rfl rfl rfl rfl (fun _ => run_eql)) ?_
        clear hF; intro a hF
        refine seq_yl hF (wn_none rfl) rfl rfl (yl_pick (u := _) (v := undef) hF rfl rfl (fun h => by cases h) (fun _ => rfl)) ?_
        clear hF; intro a hF
        refine wpList_nil ?_
        refine then_n ?_
        refine c_cond hF rfl (fun hc127 => ?_) (fun hc127 => ?_)
        · first | (replace hc127 := of_decide_eq_true hc127) | (replace hc127 := of_decide_eq_false (bnot_t hc127)) | (subst hc127) | (replace hc127 := bnot_t hc127; subst hc127) | (replace hc127 := bnot_t hc127) | skip
          refine c_seq ?_
          refine c_region ?_
          refine seq_yl hF (wn_none rfl) rfl rfl (yl_loadK (rs := [_, _, _]) (fun _ h => h ▸ hS) hF rfl rfl 2 rfl ag24 sz24 rfl rfl) ?_
          clear hF; intro a hF
          refine seq_wp (wn_none rfl) (wp_store (cs' := #[_, _, _]) hF hS rfl rfl rfl rfl 1 rfl sz24 (by simp [Value.cells, Value.oneCell']) (by simp [Value.cells]) rfl ?_)
          clear hF hS; intro a w hF hS
          refine seq_yl hF (wn_none rfl) rfl rfl (yl_assign hF rfl rfl) ?_
          clear hF; intro a hF
          refine wpList_nil ?_
          refine then_n ?_
          refine wp_ret ?_
          refine then_r ?_
          refine ret_ct hF rfl (resC hS rfl 1 rfl ag24 sz24) rfl ?_
          exact ⟨_, rfl, _, _, _, rfl, by first | exact put_no (.inl (by assumption)) | exact put_no (.inr (by omega)) | exact put_free hx125 (by omega), (hS.sub [0] (by decide) (by first | rfl | simp) (by simp))⟩
        · first | (replace hc127 := of_decide_eq_false hc127) | (replace hc127 := of_decide_eq_true (bnot_f hc127)) | (subst hc127) | (replace hc127 := bnot_f hc127; subst hc127) | (replace hc127 := bnot_f hc127) | skip
          refine wp_skip ?_
          refine then_n ?_
          refine c_seq ?_
          refine c_region ?_
          refine seq_yl hF (wn_none rfl) rfl rfl (yl_fieldAddr hF rfl rfl (fun w => by kernel_rfl : ∀ w, (Instr.fieldAt 24 (.pointer (some ⟨g119, 0, none⟩)) 0).run Try.prog w = .ok (.pointer (some ⟨g119, 0, none⟩)) w)) ?_
          clear hF; intro a hF
          refine seq_yl hF (wn_none rfl) rfl rfl (yl_load (fun _ h => h ▸ hS) hF rfl rfl 2 rfl ag22 rfl) ?_
          clear hF; intro a hF
          refine seq_yl hF (wn_none rfl) rfl rfl (yl_move hF rfl rfl) ?_
          clear hF; intro a hF
          replace hF := fr_seti (b' := ((k.toNat : Nat) : Int)) hF (by omega)
          refine seq_yl hF (wn_none rfl) rfl rfl (yl_indexAddr hF rfl rfl rfl (fun _ => run_idx' sl22 sz3 (hS.rdRow 0 rfl) hlt_hx125)) ?_
          clear hF; intro a hF
          refine seq_wp (wn_none rfl) (wp_storeAt0 (enc := encI) (z' := (-1 : Int)) hF hS rfl rfl rfl rfl 0 rfl sz3 (by simp [Value.cells, Value.oneCell']) encI_len hx125 (by simp [Value.cells]) rfl ?_)
          clear hF hS; intro a w hF hS
          have hlt_hx128 : k.toNat < (L.set k.toNat (-1 : Int)).length := by simpa using hlt_hx125
          obtain ⟨x128, hx128, hex128⟩ : ∃ x, (L.set k.toNat (-1 : Int))[k.toNat]? = some x ∧ x = (-1 : Int) := ⟨_, List.getElem?_set_self hlt_hx125, rfl⟩
          refine wpList_nil ?_
          refine then_n ?_
          refine c_seq ?_
          refine c_region ?_
          refine seq_yl hF (wn_none rfl) rfl rfl (yl_loadK (rs := [_, _, _]) (fun _ h => h ▸ hS) hF rfl rfl 2 rfl ag24 sz24 rfl rfl) ?_
          clear hF; intro a hF
          refine seq_wp (wn_none rfl) (wp_store (cs' := #[_, _, _]) hF hS rfl rfl rfl rfl 1 rfl sz24 (by simp [Value.cells, Value.oneCell']) (by simp [Value.cells]) rfl ?_)
          clear hF hS; intro a w hF hS
          refine seq_yl hF (wn_none rfl) rfl rfl (yl_assign hF rfl rfl) ?_
          clear hF; intro a hF
          refine wpList_nil ?_
          refine then_n ?_
          refine wp_ret ?_
          refine ret_ct hF rfl (resC hS rfl 1 rfl ag24 sz24) rfl ?_
          exact ⟨_, rfl, _, _, _, rfl, put_yes (by assumption) (by omega) hx125 (by omega), (hS.sub [0] (by decide) (by first | rfl | simp) (by simp))⟩

set_option maxRecDepth 100000 in
theorem put2 (v : Value) (L : List Int) (r c k : Int) (w0 : World) (hv : Rd w0 1 v (L).length (cells encI (L))) (hL : L.length ≤ 1000000) :
    Fn Try.prog 17 #[.agg #[v, .int .i64 r, .int .i64 c], .int .i64 k] w0 (fun v w' => ∃ (v1 : Value) (L1 : List Int) (b : Bool), v = .tuple #[.agg #[v1, .int .i64 r, .int .i64 c], .bool b] ∧ putF L r c k = (L1, b) ∧ Sat w0 w' [.row 3 1 v1 (L1).length (cells encI (L1))]) := by
  obtain ⟨Av, cv, rfl⟩ := Rd.form hv
  refine c_enter (N := 33) (l := [_, _]) Try.func17 rfl rfl (fun a w hF hS => ?_)
  replace hS := hS.addRo hv
  refine c_seq ?_
  refine c_region ?_
  refine seq_wp (wn_none rfl) (wp_box (cs := #[_, _, _]) hF hS rfl rfl rfl rfl rfl ?_)
  clear hF hS; intro a w g129 hF hS
  refine seq_wp (wn_none rfl) (wp_alloc (cs := #[_, _, _]) hF hS rfl rfl rfl zr24 rfl ?_)
  clear hF hS; intro a w g130 hF hS
  refine seq_yl hF (wn_none rfl) rfl rfl (yl_assign hF rfl rfl) ?_
  clear hF; intro a hF
  refine wpList_nil ?_
  refine then_n ?_
  refine c_seq ?_
  refine c_seq ?_
  refine c_region ?_
  refine seq_yl hF (wn_none rfl) rfl rfl (yl_loadK (rs := [_, _, _]) (fun _ h => h ▸ hS) hF rfl rfl 1 rfl ag24 sz24 rfl rfl) ?_
  clear hF; intro a hF
  refine seq_wp (wn_none rfl) (wp_call (vs := [_]) hF rfl rfl rfl rfl cf19 (valid2 _ L (r) (c) _ (hS.rdRo 2 rfl) (by first | omega | (simp; done) | (simp; omega))) ?_)
  clear hF; rintro _ w ⟨rfl, hS1⟩ a hF
  replace hS := hS.callB hS1 rfl; clear hS1
  refine seq_yl hF (wn_none rfl) rfl rfl (yl_un hF rfl rfl (fun _ => run_not)) ?_
  clear hF; intro a hF
  refine seq_yl hF (wn_none rfl) rfl rfl (yl_move hF rfl rfl) ?_
  clear hF; intro a hF
  refine fr_split hF (fun hc131 hF => ?_) (fun hc131 hF => ?_)
  · first | (replace hc131 := of_decide_eq_true hc131) | (replace hc131 := of_decide_eq_false (bnot_t hc131)) | (subst hc131) | (replace hc131 := bnot_t hc131; subst hc131) | (replace hc131 := bnot_t hc131) | skip
    refine seq_skip hF (wn_f hF rfl rfl rfl rfl) rfl rfl ?_
    clear hF; intro a hF
    refine seq_skip hF (wn_f hF rfl rfl rfl rfl) rfl rfl ?_
    clear hF; intro a hF
    refine seq_yl hF (wn_none rfl) rfl rfl (yl_pick (u := _) (v := undef) hF rfl rfl (fun _ => rfl) (fun h => by cases h)) ?_
    clear hF; intro a hF
    refine seq_yl hF (wn_none rfl) rfl rfl (yl_move hF rfl rfl) ?_
    clear hF; intro a hF
    refine seq_skip hF (wn_f hF rfl rfl rfl rfl) rfl rfl ?_
    clear hF; intro a hF
    refine seq_skip hF (wn_f hF rfl rfl rfl rfl) rfl rfl ?_
    clear hF; intro a hF
    refine seq_skip hF (wn_f hF rfl rfl rfl rfl) rfl rfl ?_
    clear hF; intro a hF
    refine seq_skip hF (wn_f hF rfl rfl rfl rfl) rfl rfl ?_
    clear hF; intro a hF
    refine seq_skip hF (wn_f hF rfl rfl rfl rfl) rfl rfl ?_
    clear hF; intro a hF
    refine seq_yl hF (wn_none rfl) rfl rfl (yl_pick (u := _) (v := undef) hF rfl rfl (fun _ => rfl) (fun h => by cases h)) ?_
    clear hF; intro a hF
    refine seq_yl hF (wn_none rfl) rfl rfl (yl_move hF rfl rfl) ?_
    clear hF; intro a hF
    refine seq_skip hF (wn_f hF rfl rfl rfl rfl) rfl rfl ?_
    clear hF; intro a hF
    refine seq_skip hF (wn_f hF rfl rfl rfl rfl) rfl rfl ?_
    clear hF; intro a hF
    refine seq_skip hF (wn_f hF rfl rfl rfl rfl) rfl rfl ?_
    clear hF; intro a hF
    refine seq_skip hF (wn_f hF rfl rfl rfl rfl) rfl rfl ?_
    clear hF; intro a hF
    refine seq_skip hF (wn_f hF rfl rfl rfl rfl) rfl rfl ?_
    clear hF; intro a hF
    refine seq_skip hF (wn_f hF rfl rfl rfl rfl) rfl rfl ?_
    clear hF; intro a hF
    refine seq_yl hF (wn_none rfl) rfl rfl (yl_pick (u := _) (v := undef) hF rfl rfl (fun _ => rfl) (fun h => by cases h)) ?_
    clear hF; intro a hF
    refine wpList_nil ?_
    refine then_n ?_
    refine c_cond_t hF rfl ?_
    refine c_seq ?_
    refine c_region ?_
    refine seq_yl hF (wn_none rfl) rfl rfl (yl_loadK (rs := [_, _, _]) (fun _ h => h ▸ hS) hF rfl rfl 1 rfl ag24 sz24 rfl rfl) ?_
    clear hF; intro a hF
    refine seq_wp (wn_none rfl) (wp_call (vs := [_, _, _]) hF rfl rfl rfl rfl cf28 (withN _ L (r) (c) _ (hS.rdRo 2 rfl) (by first | omega | (simp; done) | (simp; omega))) ?_)
    clear hF; rintro _ w ⟨v132, rfl, hS1⟩ a hF
    replace hS := hS.callB hS1 rfl; clear hS1
    obtain ⟨Av132, cv132, rfl⟩ := hS.form 0 rfl
    refine seq_wp (wn_none rfl) (wp_store (cs' := #[_, _, _]) hF hS rfl rfl rfl rfl 1 rfl sz24 (by simp [Value.cells, Value.oneCell']) (by simp [Value.cells]) rfl ?_)
    clear hF hS; intro a w hF hS
    refine seq_yl hF (wn_none rfl) rfl rfl (yl_assign hF rfl rfl) ?_
    clear hF; intro a hF
    refine wpList_nil ?_
    refine then_n ?_
    refine wp_ret ?_
    refine then_r ?_
    refine ret_ct hF rfl (resC hS rfl 1 rfl ag24 sz24) rfl ?_
    exact ⟨_, rfl, _, _, _, rfl, by first | exact put_no (.inl (by assumption)) | exact put_no (.inr (by omega)) | exact put_free rfl (by omega), (hS.sub [0] (by decide) (by first | rfl | simp) (by simp))⟩
  · first | (replace hc131 := of_decide_eq_false hc131) | (replace hc131 := of_decide_eq_true (bnot_f hc131)) | (subst hc131) | (replace hc131 := bnot_f hc131; subst hc131) | (replace hc131 := bnot_f hc131) | skip
    refine seq_yl hF (wn_t hF rfl rfl rfl rfl) rfl rfl (yl_move hF rfl rfl) ?_
    clear hF; intro a hF
    refine seq_yl hF (wn_t hF rfl rfl rfl rfl) rfl rfl (yl_bin hF rfl rfl rfl rfl (fun _ => run_lss)) ?_
    clear hF; intro a hF
    refine seq_yl hF (wn_none rfl) rfl rfl (yl_pick (u := _) (v := undef) hF rfl rfl (fun h => by cases h) (fun _ => rfl)) ?_
    clear hF; intro a hF
    refine seq_yl hF (wn_none rfl) rfl rfl (yl_move hF rfl rfl) ?_
    clear hF; intro a hF
    refine fr_split hF (fun hc133 hF => ?_) (fun hc133 hF => ?_)
    · first | (replace hc133 := of_decide_eq_true hc133) | (replace hc133 := of_decide_eq_false (bnot_t hc133)) | (subst hc133) | (replace hc133 := bnot_t hc133; subst hc133) | (replace hc133 := bnot_t hc133) | skip
      refine seq_skip hF (wn_f hF rfl rfl rfl rfl) rfl rfl ?_
      clear hF; intro a hF
      refine seq_skip hF (wn_f hF rfl rfl rfl rfl) rfl rfl ?_
      clear hF; intro a hF
      refine seq_skip hF (wn_f hF rfl rfl rfl rfl) rfl rfl ?_
      clear hF; intro a hF
      refine seq_skip hF (wn_f hF rfl rfl rfl rfl) rfl rfl ?_
      clear hF; intro a hF
      refine seq_skip hF (wn_f hF rfl rfl rfl rfl) rfl rfl ?_
      clear hF; intro a hF
      refine seq_yl hF (wn_none rfl) rfl rfl (yl_pick (u := _) (v := undef) hF rfl rfl (fun _ => rfl) (fun h => by cases h)) ?_
      clear hF; intro a hF
      refine seq_yl hF (wn_none rfl) rfl rfl (yl_move hF rfl rfl) ?_
      clear hF; intro a hF
      refine seq_skip hF (wn_f hF rfl rfl rfl rfl) rfl rfl ?_
      clear hF; intro a hF
      refine seq_skip hF (wn_f hF rfl rfl rfl rfl) rfl rfl ?_
      clear hF; intro a hF
      refine seq_skip hF (wn_f hF rfl rfl rfl rfl) rfl rfl ?_
      clear hF; intro a hF
      refine seq_skip hF (wn_f hF rfl rfl rfl rfl) rfl rfl ?_
      clear hF; intro a hF
      refine seq_skip hF (wn_f hF rfl rfl rfl rfl) rfl rfl ?_
      clear hF; intro a hF
      refine seq_skip hF (wn_f hF rfl rfl rfl rfl) rfl rfl ?_
      clear hF; intro a hF
      refine seq_yl hF (wn_none rfl) rfl rfl (yl_pick (u := _) (v := undef) hF rfl rfl (fun _ => rfl) (fun h => by cases h)) ?_
      clear hF; intro a hF
      refine wpList_nil ?_
      refine then_n ?_
      refine c_cond_t hF rfl ?_
      refine c_seq ?_
      refine c_region ?_
      refine seq_yl hF (wn_none rfl) rfl rfl (yl_loadK (rs := [_, _, _]) (fun _ h => h ▸ hS) hF rfl rfl 1 rfl ag24 sz24 rfl rfl) ?_
      clear hF; intro a hF
      refine seq_wp (wn_none rfl) (wp_call (vs := [_, _, _]) hF rfl rfl rfl rfl cf28 (withN _ L (r) (c) _ (hS.rdRo 2 rfl) (by first | omega | (simp; done) | (simp; omega))) ?_)
      clear hF; rintro _ w ⟨v134, rfl, hS1⟩ a hF
      replace hS := hS.callB hS1 rfl; clear hS1
      obtain ⟨Av134, cv134, rfl⟩ := hS.form 0 rfl
      refine seq_wp (wn_none rfl) (wp_store (cs' := #[_, _, _]) hF hS rfl rfl rfl rfl 1 rfl sz24 (by simp [Value.cells, Value.oneCell']) (by simp [Value.cells]) rfl ?_)
      clear hF hS; intro a w hF hS
      refine seq_yl hF (wn_none rfl) rfl rfl (yl_assign hF rfl rfl) ?_
      clear hF; intro a hF
      refine wpList_nil ?_
      refine then_n ?_
      refine wp_ret ?_
      refine then_r ?_
      refine ret_ct hF rfl (resC hS rfl 1 rfl ag24 sz24) rfl ?_
      exact ⟨_, rfl, _, _, _, rfl, by first | exact put_no (.inl (by assumption)) | exact put_no (.inr (by omega)) | exact put_free rfl (by omega), (hS.sub [0] (by decide) (by first | rfl | simp) (by simp))⟩
    · first | (replace hc133 := of_decide_eq_false hc133) | (replace hc133 := of_decide_eq_true (bnot_f hc133)) | (subst hc133) | (replace hc133 := bnot_f hc133; subst hc133) | (replace hc133 := bnot_f hc133) | skip
      refine seq_yl hF (wn_t hF rfl rfl rfl rfl) rfl rfl (yl_move hF rfl rfl) ?_
      clear hF; intro a hF
      refine seq_yl hF (wn_t hF rfl rfl rfl rfl) rfl rfl (yl_fieldAddr hF rfl rfl (fun w => by kernel_rfl : ∀ w, (Instr.fieldAt 24 (.pointer (some ⟨g129, 0, none⟩)) 0).run Try.prog w = .ok (.pointer (some ⟨g129, 0, none⟩)) w)) ?_
      clear hF; intro a hF
      refine seq_yl hF (wn_t hF rfl rfl rfl rfl) rfl rfl (yl_load (fun _ h => h ▸ hS) hF rfl rfl 1 rfl ag22 rfl) ?_
      clear hF; intro a hF
      refine seq_yl hF (wn_t hF rfl rfl rfl rfl) rfl rfl (yl_len hF rfl rfl (fun _ => run_lenRd sl22 (hS.rdRo 2 rfl))) ?_
      clear hF; intro a hF
      refine seq_yl hF (wn_t hF rfl rfl rfl rfl) rfl rfl (yl_bin hF rfl rfl rfl rfl (fun _ => run_geq)) ?_
      clear hF; intro a hF
      refine seq_yl hF (wn_none rfl) rfl rfl (yl_pick (u := _) (v := undef) hF rfl rfl (fun h => by cases h) (fun _ => rfl)) ?_
      clear hF; intro a hF
      refine seq_yl hF (wn_none rfl) rfl rfl (yl_move hF rfl rfl) ?_
      clear hF; intro a hF
      refine fr_split hF (fun hc135 hF => ?_) (fun hc135 hF => ?_)
      · first | (replace hc135 := of_decide_eq_true hc135) | (replace hc135 := of_decide_eq_false (bnot_t hc135)) | (subst hc135) | (replace hc135 := bnot_t hc135; subst hc135) | (replace hc135 := bnot_t hc135) | skip
        refine seq_skip hF (wn_f hF rfl rfl rfl rfl) rfl rfl ?_
        clear hF; intro a hF
        refine seq_skip hF (wn_f hF rfl rfl rfl rfl) rfl rfl ?_
        clear hF; intro a hF
        refine seq_skip hF (wn_f hF rfl rfl rfl rfl) rfl rfl ?_
        clear hF; intro a hF
        refine seq_skip hF (wn_f hF rfl rfl rfl rfl) rfl rfl ?_
        clear hF; intro a hF
        refine seq_skip hF (wn_f hF rfl rfl rfl rfl) rfl rfl ?_
        clear hF; intro a hF
        refine seq_skip hF (wn_f hF rfl rfl rfl rfl) rfl rfl ?_
        clear hF; intro a hF
        refine seq_yl hF (wn_none rfl) rfl rfl (yl_pick (u := _) (v := undef) hF rfl rfl (fun _ => rfl) (fun h => by cases h)) ?_
        clear hF; intro a hF
        refine wpList_nil ?_
        refine then_n ?_
        refine c_cond_t hF rfl ?_
        refine c_seq ?_
        refine c_region ?_
        refine seq_yl hF (wn_none rfl) rfl rfl (yl_loadK (rs := [_, _, _]) (fun _ h => h ▸ hS) hF rfl rfl 1 rfl ag24 sz24 rfl rfl) ?_
        clear hF; intro a hF
        refine seq_wp (wn_none rfl) (wp_call (vs := [_, _, _]) hF rfl rfl rfl rfl cf28 (withN _ L (r) (c) _ (hS.rdRo 2 rfl) (by first | omega | (simp; done) | (simp; omega))) ?_)
        clear hF; rintro _ w ⟨v136, rfl, hS1⟩ a hF
        replace hS := hS.callB hS1 rfl; clear hS1
        obtain ⟨Av136, cv136, rfl⟩ := hS.form 0 rfl
        refine seq_wp (wn_none rfl) (wp_store (cs' := #[_, _, _]) hF hS rfl rfl rfl rfl 1 rfl sz24 (by simp [Value.cells, Value.oneCell']) (by simp [Value.cells]) rfl ?_)
        clear hF hS; intro a w hF hS
        refine seq_yl hF (wn_none rfl) rfl rfl (yl_assign hF rfl rfl) ?_
        clear hF; intro a hF
        refine wpList_nil ?_
        refine then_n ?_
        refine wp_ret ?_
        refine then_r ?_
        refine ret_ct hF rfl (resC hS rfl 1 rfl ag24 sz24) rfl ?_
        exact ⟨_, rfl, _, _, _, rfl, by first | exact put_no (.inl (by assumption)) | exact put_no (.inr (by omega)) | exact put_free rfl (by omega), (hS.sub [0] (by decide) (by first | rfl | simp) (by simp))⟩
      · first | (replace hc135 := of_decide_eq_false hc135) | (replace hc135 := of_decide_eq_true (bnot_f hc135)) | (subst hc135) | (replace hc135 := bnot_f hc135; subst hc135) | (replace hc135 := bnot_f hc135) | skip
        refine seq_yl hF (wn_t hF rfl rfl rfl rfl) rfl rfl (yl_fieldAddr hF rfl rfl (fun w => by kernel_rfl : ∀ w, (Instr.fieldAt 24 (.pointer (some ⟨g129, 0, none⟩)) 0).run Try.prog w = .ok (.pointer (some ⟨g129, 0, none⟩)) w)) ?_
        clear hF; intro a hF
        refine seq_yl hF (wn_t hF rfl rfl rfl rfl) rfl rfl (yl_load (fun _ h => h ▸ hS) hF rfl rfl 1 rfl ag22 rfl) ?_
        clear hF; intro a hF
        refine seq_yl hF (wn_t hF rfl rfl rfl rfl) rfl rfl (yl_move hF rfl rfl) ?_
        clear hF; intro a hF
        replace hF := fr_seti (b' := ((k.toNat : Nat) : Int)) hF (by omega)
        have hlt_hx137 : k.toNat < (L).length := by first | omega | (simp; done) | (simp; omega)
        obtain ⟨ad138, rfl⟩ := rd_some (hS.rdRo 2 rfl) hlt_hx137
        obtain ⟨x137, hx137⟩ := get_some hlt_hx137
        refine seq_yl hF (wn_t hF rfl rfl rfl rfl) rfl rfl (yl_indexAddr hF rfl rfl rfl (fun _ => run_idx' sl22 sz3 (hS.rdRo 2 rfl) hlt_hx137)) ?_
        clear hF; intro a hF
        refine seq_yl hF (wn_t hF rfl rfl rfl rfl) rfl rfl (yl_loadAt hF rfl rfl ag3 (fun _ h => rd_cell0 (enc := encI) (by subst h; exact hS.rdRo 2 rfl) encI_len hx137 rfl rfl)) ?_
        clear hF; intro a hF
        refine seq_yl hF (wn_t hF rfl rfl rfl rfl) rfl rfl (yl_bin hF rfl rfl rfl rfl (fun _ => run_eql)) ?_
        clear hF; intro a hF
        refine seq_yl hF (wn_none rfl) rfl rfl (yl_pick (u := _) (v := undef) hF rfl rfl (fun h => by cases h) (fun _ => rfl)) ?_
        clear hF; intro a hF
        refine wpList_nil ?_
        refine then_n ?_
        refine c_cond hF rfl (fun hc139 => ?_) (fun hc139 => ?_)
        · first | (replace hc139 := of_decide_eq_true hc139) | (replace hc139 := of_decide_eq_false (bnot_t hc139)) | (subst hc139) | (replace hc139 := bnot_t hc139; subst hc139) | (replace hc139 := bnot_t hc139) | skip
          refine c_seq ?_
          refine c_region ?_
          refine seq_yl hF (wn_none rfl) rfl rfl (yl_loadK (rs := [_, _, _]) (fun _ h => h ▸ hS) hF rfl rfl 1 rfl ag24 sz24 rfl rfl) ?_
          clear hF; intro a hF
          refine seq_wp (wn_none rfl) (wp_call (vs := [_, _, _]) hF rfl rfl rfl rfl cf28 (withN _ L (r) (c) _ (hS.rdRo 2 rfl) (by first | omega | (simp; done) | (simp; omega))) ?_)
          clear hF; rintro _ w ⟨v140, rfl, hS1⟩ a hF
          replace hS := hS.callB hS1 rfl; clear hS1
          obtain ⟨Av140, cv140, rfl⟩ := hS.form 0 rfl
          refine seq_wp (wn_none rfl) (wp_store (cs' := #[_, _, _]) hF hS rfl rfl rfl rfl 1 rfl sz24 (by simp [Value.cells, Value.oneCell']) (by simp [Value.cells]) rfl ?_)
          clear hF hS; intro a w hF hS
          refine seq_yl hF (wn_none rfl) rfl rfl (yl_assign hF rfl rfl) ?_
          clear hF; intro a hF
          refine wpList_nil ?_
          refine then_n ?_
          refine wp_ret ?_
          refine then_r ?_
          refine ret_ct hF rfl (resC hS rfl 1 rfl ag24 sz24) rfl ?_
          exact ⟨_, rfl, _, _, _, rfl, by first | exact put_no (.inl (by assumption)) | exact put_no (.inr (by omega)) | exact put_free hx137 (by omega), (hS.sub [0] (by decide) (by first | rfl | simp) (by simp))⟩
        · first | (replace hc139 := of_decide_eq_false hc139) | (replace hc139 := of_decide_eq_true (bnot_f hc139)) | (subst hc139) | (replace hc139 := bnot_f hc139; subst hc139) | (replace hc139 := bnot_f hc139) | skip
          refine wp_skip ?_
          refine then_n ?_
          refine c_seq ?_
          refine c_region ?_
          refine seq_yl hF (wn_none rfl) rfl rfl (yl_loadK (rs := [_, _, _]) (fun _ h => h ▸ hS) hF rfl rfl 1 rfl ag24 sz24 rfl rfl) ?_
          clear hF; intro a hF
          refine seq_yl hF (wn_none rfl) rfl rfl (yl_move hF rfl rfl) ?_
          clear hF; intro a hF
          replace hF := fr_seti (b' := ((k.toNat : Nat) : Int)) hF (by omega)
          refine seq_wp (wn_none rfl) (wp_call (vs := [_, _, _]) hF rfl rfl rfl rfl cf28 (withK _ L (r) (c) (-1 : Int) k.toNat (by omega) _ (hS.rdRo 2 rfl) (by first | omega | (simp; done) | (simp; omega))) ?_)
          clear hF; rintro _ w ⟨v141, rfl, hS1⟩ a hF
          replace hS := hS.callB hS1 rfl; clear hS1
          obtain ⟨Av141, cv141, rfl⟩ := hS.form 0 rfl
          refine seq_wp (wn_none rfl) (wp_store (cs' := #[_, _, _]) hF hS rfl rfl rfl rfl 1 rfl sz24 (by simp [Value.cells, Value.oneCell']) (by simp [Value.cells]) rfl ?_)
          clear hF hS; intro a w hF hS
          refine seq_yl hF (wn_none rfl) rfl rfl (yl_assign hF rfl rfl) ?_
          clear hF; intro a hF
          refine wpList_nil ?_
          refine then_n ?_
          refine wp_ret ?_
          refine ret_ct hF rfl (resC hS rfl 1 rfl ag24 sz24) rfl ?_
          exact ⟨_, rfl, _, _, _, rfl, put_yes (by assumption) (by omega) hx137 (by omega), (hS.sub [0] (by decide) (by first | rfl | simp) (by simp))⟩

end Go.Proofs.Ytaakkkknnihfmaa

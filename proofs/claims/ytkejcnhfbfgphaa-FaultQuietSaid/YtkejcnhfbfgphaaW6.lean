/- walks, printed by wip/gen -/
import Derived.Test.YtkejcnhfbfgphaaW4
namespace Go.Proofs.Ytkejcnhfbfgphaa
open Go.RowKit
set_option linter.unusedVariables false
set_option linter.unusedSimpArgs false

set_option maxHeartbeats 2000000 in
set_option maxRecDepth 100000 in
theorem quietL_any (v : Value) (L : List Int) (n1 n2 n3 : Int) (w0 : World) (hv : Rd w0 1 v (L).length (cells encI (L))) (hL : L.length ≤ 9223372036854775807) :
    Fn Try.prog 5 #[v, .int .i64 n1, .int .i64 n2, .int .i64 n3] w0 (fun v w' => v = .bool true ∧ Sat w0 w' []) := by
  obtain ⟨Av, cv, rfl⟩ := Rd.form hv
  refine c_enter (N := 56) (l := [_, _, _, _]) Try.func5 rfl rfl (fun a w hF hS => ?_)
  replace hS := hS.addRo hv
  refine c_seq ?_
  refine c_region ?_
  refine seq_yl hF (wn_none rfl) rfl rfl (yl_assign hF rfl rfl) ?_
  clear hF; intro a hF
  refine wpList_nil ?_
  refine then_n ?_
  refine c_seq ?_
  refine c_region ?_
  refine seq_yl hF (wn_none rfl) rfl rfl (yl_move hF rfl rfl) ?_
  clear hF; intro a hF
  refine seq_wp (wn_none rfl) (wp_call (vs := [_]) hF rfl rfl rfl rfl cf11 (rules_any _ L _ (hS.rdRo 0 rfl) (by first | omega | (simp; done) | (simp; omega))) ?_)
  clear hF; rintro _ w ⟨v285, M286, rfl, hl287, hM288, hS1⟩ a hF
  replace hS := hS.callB hS1 rfl; clear hS1
  obtain ⟨Av285, cv285, rfl⟩ := hS.form 0 rfl
  refine seq_yl hF (wn_none rfl) rfl rfl (yl_assign hF rfl rfl) ?_
  clear hF; intro a hF
  refine wpList_nil ?_
  refine then_n ?_
  refine c_seq ?_
  refine c_seq ?_
  refine c_region ?_
  refine seq_yl hF (wn_none rfl) rfl rfl (yl_assign hF rfl rfl) ?_
  clear hF; intro a hF
  refine wpList_nil ?_
  refine then_n ?_
  refine wp_block ?_
  refine c_loop (fun m a w => ∃ (k : Nat) (T : List E37) (AvT : Option Addr) (mv cvT : Nat), m = M286.length - k ∧ (k ≤ M286.length ∧ Qz T M286.length k) ∧ Fr 56 a [(1, .int .i64 (n1)), (2, .int .i64 (n2)), (3, .int .i64 (n3)), (8, .bool false), (9, .slice AvT mv cvT), (10, .int .i64 ((k : Nat) : Int))] ∧ Sat w0 w (.row 37 9 (.slice AvT mv cvT) (T).length (cells enc37 (T)) :: [])) (M286.length - 0) ?_ ?_
  · exact ⟨0, M286, Av285, _, cv285, rfl, ⟨by omega, ⟨rfl, by simp⟩⟩, hF.to [1, 2, 3, 8, 9, 10] rfl, (hS.sub [0] (by decide) (by first | rfl | simp) (by simp))⟩
  · clear hF hS; try clear hSS
    clear a w; rintro m a w ⟨k, T, AvT, mv, cvT, rfl, hinv, hF, hS⟩
    obtain ⟨hk, hq⟩ := hinv
    have hql := hq.len
    refine c_seq ?_
    refine c_seq ?_
    refine c_region ?_
    refine seq_yl hF (wn_none rfl) rfl rfl (yl_move hF rfl rfl) ?_
    clear hF; intro a hF
    refine seq_yl hF (wn_none rfl) rfl rfl (yl_move hF rfl rfl) ?_
    clear hF; intro a hF
    refine seq_yl hF (wn_none rfl) rfl rfl (yl_len hF rfl rfl (fun _ => run_lenRd sl23 (hS.rdRow 0 rfl))) ?_
    clear hF; intro a hF
    refine seq_yl hF (wn_none rfl) rfl rfl (yl_bin hF rfl rfl rfl rfl (fun _ => run_lss)) ?_
    clear hF; intro a hF
    refine wpList_nil ?_
    refine then_n ?_
    refine c_cond hF rfl (fun hc289 => ?_) (fun hc289 => ?_)
    · first | (replace hc289 := of_decide_eq_true hc289) | (replace hc289 := of_decide_eq_false (bnot_t hc289)) | (subst hc289) | (replace hc289 := bnot_t hc289; subst hc289) | (replace hc289 := bnot_t hc289) | skip
      refine wp_skip ?_
      refine then_n ?_
      refine c_seq ?_
      refine wp_block ?_
      refine c_region ?_
      refine seq_yl hF (wn_none rfl) rfl rfl (yl_move hF rfl rfl) ?_
      clear hF; intro a hF
      refine seq_yl hF (wn_none rfl) rfl rfl (yl_move hF rfl rfl) ?_
      clear hF; intro a hF
      refine seq_yl hF (wn_none rfl) rfl rfl (yl_move hF rfl rfl) ?_
      clear hF; intro a hF
      refine seq_yl hF (wn_none rfl) rfl rfl (yl_move hF rfl rfl) ?_
      clear hF; intro a hF
      have hlt_hx290 : k < (T).length := by first | omega | (simp; done) | (simp; omega)
      obtain ⟨ad291, rfl⟩ := rd_some (hS.rdRow 0 rfl) hlt_hx290
      obtain ⟨x290, hx290⟩ := get_some hlt_hx290
      refine seq_yl hF (wn_none rfl) rfl rfl (yl_indexAddr hF rfl rfl rfl (fun _ => run_idx' sl23 sz37 (hS.rdRow 0 rfl) hlt_hx290)) ?_
      clear hF; intro a hF
      refine seq_yl hF (wn_none rfl) rfl rfl (yl_fieldAddr hF rfl rfl (fun w => run_fa fo37_4)) ?_
      clear hF; intro a hF
      refine seq_wp (wn_none rfl) (wp_storeAt (j := 4) (enc := enc37) (z' := (E37.mk (x290.f0) (x290.f1) (x290.f2) (x290.f3) (0 : Int) (x290.f5) (x290.f6) x290.f7 (x290.f8))) hF hS rfl rfl rfl rfl 0 rfl sz3 (by simp [Value.cells, Value.oneCell']) enc37_len hx290 (by simp [Value.cells]) rfl ?_)
      clear hF hS; intro a w hF hS
      have hlt_hx292 : k < (T.set k (E37.mk (x290.f0) (x290.f1) (x290.f2) (x290.f3) (0 : Int) (x290.f5) (x290.f6) x290.f7 (x290.f8))).length := by simpa using hlt_hx290
      obtain ⟨x292, hx292, hex292⟩ : ∃ x, (T.set k (E37.mk (x290.f0) (x290.f1) (x290.f2) (x290.f3) (0 : Int) (x290.f5) (x290.f6) x290.f7 (x290.f8)))[k]? = some x ∧ x = (E37.mk (x290.f0) (x290.f1) (x290.f2) (x290.f3) (0 : Int) (x290.f5) (x290.f6) x290.f7 (x290.f8)) := ⟨_, List.getElem?_set_self hlt_hx290, rfl⟩
      refine seq_yl hF (wn_none rfl) rfl rfl (yl_indexAddr hF rfl rfl rfl (fun _ => run_idx' sl23 sz37 (hS.rdRow 0 rfl) hlt_hx292)) ?_
      clear hF; intro a hF
      refine seq_yl hF (wn_none rfl) rfl rfl (yl_fieldAddr hF rfl rfl (fun w => run_fa fo37_3)) ?_
      clear hF; intro a hF
      refine seq_wp (wn_none rfl) (wp_storeAt (j := 3) (enc := enc37) (z' := (E37.mk (x292.f0) (x292.f1) (x292.f2) (0 : Int) (x292.f4) (x292.f5) (x292.f6) x292.f7 (x292.f8))) hF hS rfl rfl rfl rfl 0 rfl sz3 (by simp [Value.cells, Value.oneCell']) enc37_len hx292 (by simp [Value.cells]) rfl ?_)
      clear hF hS; intro a w hF hS
      have hlt_hx293 : k < ((T.set k (E37.mk (x290.f0) (x290.f1) (x290.f2) (x290.f3) (0 : Int) (x290.f5) (x290.f6) x290.f7 (x290.f8))).set k (E37.mk (x292.f0) (x292.f1) (x292.f2) (0 : Int) (x292.f4) (x292.f5) (x292.f6) x292.f7 (x292.f8))).length := by simpa using hlt_hx292
      obtain ⟨x293, hx293, hex293⟩ : ∃ x, ((T.set k (E37.mk (x290.f0) (x290.f1) (x290.f2) (x290.f3) (0 : Int) (x290.f5) (x290.f6) x290.f7 (x290.f8))).set k (E37.mk (x292.f0) (x292.f1) (x292.f2) (0 : Int) (x292.f4) (x292.f5) (x292.f6) x292.f7 (x292.f8)))[k]? = some x ∧ x = (E37.mk (x292.f0) (x292.f1) (x292.f2) (0 : Int) (x292.f4) (x292.f5) (x292.f6) x292.f7 (x292.f8)) := ⟨_, List.getElem?_set_self hlt_hx292, rfl⟩
      refine wpList_nil ?_
      refine inb_n ?_
      refine then_n ?_
      refine c_region ?_
      refine seq_yl hF (wn_none rfl) rfl rfl (yl_move hF rfl rfl) ?_
      clear hF; intro a hF
      refine seq_yl hF (wn_none rfl) rfl rfl (yl_bin hF rfl rfl rfl rfl (fun _ => run_inc (by omega))) ?_
      clear hF; intro a hF
      refine seq_yl hF (wn_none rfl) rfl rfl (yl_assign hF rfl rfl) ?_
      clear hF; intro a hF
      refine wpList_nil ?_
      refine then_n ?_
      exact ⟨_, (by omega), k + 1, ((T.set k (E37.mk (x290.f0) (x290.f1) (x290.f2) (x290.f3) (0 : Int) (x290.f5) (x290.f6) x290.f7 (x290.f8))).set k (E37.mk (x292.f0) (x292.f1) (x292.f2) (0 : Int) (x292.f4) (x292.f5) (x292.f6) x292.f7 (x292.f8))), (some ad291), mv, cvT, rfl, ⟨by omega, qz_next hq (by omega) ⟨by first | rfl | (show _ = (0 : Int); rw [hex293]) | simp [*], by first | rfl | simp [*]⟩⟩, hF.to [1, 2, 3, 8, 9, 10] rfl, (hS.sub [0] (by decide) (by first | rfl | simp) (by simp))⟩
    · first | (replace hc289 := of_decide_eq_false hc289) | (replace hc289 := of_decide_eq_true (bnot_f hc289)) | (subst hc289) | (replace hc289 := bnot_f hc289; subst hc289) | (replace hc289 := bnot_f hc289) | skip
      refine wp_exit ?_
      refine then_x ?_
      refine then_x ?_
      refine inb_x ?_
      refine then_n ?_
      refine c_seq ?_
      refine c_region ?_
      have hall := qz_all hq (by omega)
      refine seq_yl hF (wn_none rfl) rfl rfl (yl_move hF rfl rfl) ?_
      clear hF; intro a hF
      refine seq_yl hF (wn_none rfl) rfl rfl (yl_move hF rfl rfl) ?_
      clear hF; intro a hF
      have hr294 := rnd_bounds (n1) (3 : Int) (by omega)
      refine seq_wp (wn_none rfl) (wp_call (vs := [_, _]) hF rfl rfl rfl rfl cf13 (round_any (n1) (3 : Int) _ (by omega)) ?_)
      clear hF; rintro _ w ⟨rfl, hS1⟩ a hF
      replace hS := hS.callB hS1 rfl; clear hS1
      refine seq_yl hF (wn_none rfl) rfl rfl (yl_bin hF rfl rfl rfl rfl (fun _ => run_add (by refine ⟨?_, ?_⟩ <;> omega))) ?_
      clear hF; intro a hF
      refine seq_yl hF (wn_none rfl) rfl rfl (yl_move hF rfl rfl) ?_
      clear hF; intro a hF
      have hr295 := rnd_bounds (n2) (9 : Int) (by omega)
      refine seq_wp (wn_none rfl) (wp_call (vs := [_, _]) hF rfl rfl rfl rfl cf13 (round_any (n2) (9 : Int) _ (by omega)) ?_)
      clear hF; rintro _ w ⟨rfl, hS1⟩ a hF
      replace hS := hS.callB hS1 rfl; clear hS1
      refine seq_yl hF (wn_none rfl) rfl rfl (yl_move hF rfl rfl) ?_
      clear hF; intro a hF
      have hr296 := rnd_bounds (n3) (5 : Int) (by omega)
      refine seq_wp (wn_none rfl) (wp_call (vs := [_, _]) hF rfl rfl rfl rfl cf13 (round_any (n3) (5 : Int) _ (by omega)) ?_)
      clear hF; rintro _ w ⟨rfl, hS1⟩ a hF
      replace hS := hS.callB hS1 rfl; clear hS1
      refine seq_wp (wn_none rfl) (wp_call (vs := [_, _, _, _]) hF rfl rfl rfl rfl cf12 (step_any _ T (((1 : Int) + ((rnd (n1) (3 : Int))))) ((rnd (n2) (9 : Int))) ((rnd (n3) (5 : Int))) _ (hS.rdRow 0 rfl) (by first | omega | (simp; done) | (simp; omega))) ?_)
      clear hF; rintro _ w ⟨v297, L298, er299, dn300, hf301, dl302, rfl, hp303, hS1⟩ a hF
      replace hS := hS.callB hS1 rfl; clear hS1
      obtain ⟨Av297, cv297, rfl⟩ := hS.form 0 rfl
      have hlhp303 := step_len hp303
      have hv9 := (step_quiet (k := (((1 : Int) + ((rnd (n1) (3 : Int)))))) (s := ((rnd (n2) (9 : Int)))) (c := ((rnd (n3) (5 : Int)))) hall).symm.trans hp303; injection hv9 with hq1 hq2; injection hq2 with hq3 hq4 hq5 hq6
      subst hq1 hq3 hq4 hq5 hq6
      refine seq_yl hF (wn_none rfl) rfl rfl (yl_move hF rfl rfl) ?_
      clear hF; intro a hF
      refine seq_yl hF (wn_none rfl) rfl rfl (yl_extract hF rfl rfl rfl) ?_
      clear hF; intro a hF
      refine seq_yl hF (wn_none rfl) rfl rfl (yl_extract hF rfl rfl rfl) ?_
      clear hF; intro a hF
      refine seq_wp (wn_none rfl) (wp_alloc (cs := #[_, _, _, _]) hF hS rfl rfl rfl zr27 rfl ?_)
      clear hF hS; intro a w g304 hF hS
      refine seq_yl hF (wn_none rfl) rfl rfl (yl_assign hF rfl rfl) ?_
      clear hF; intro a hF
      refine seq_wp (wn_none rfl) (wp_store (cs' := #[_, _, _, _]) hF hS rfl rfl rfl rfl 0 rfl sz27 (by simp [Value.cells, Value.oneCell']) (by simp [Value.cells]) rfl ?_)
      clear hF hS; intro a w hF hS
      refine wpList_nil ?_
      refine then_n ?_
      refine c_seq ?_
      refine c_region ?_
      refine seq_yl hF (wn_none rfl) rfl rfl (yl_move hF rfl rfl) ?_
      clear hF; intro a hF
      refine seq_wp (wn_none rfl) (wp_call (vs := [_]) hF rfl rfl rfl rfl cf16 (quiet_any _ T _ (hS.rdRow 2 rfl) (by first | omega | (simp; done) | (simp; omega))) ?_)
      clear hF; rintro _ w ⟨rfl, hS1⟩ a hF
      replace hS := hS.callB hS1 rfl; clear hS1
      replace hF := fr_set (b' := true) hF (quiet_yes hall)
      refine seq_yl hF (wn_none rfl) rfl rfl (yl_move hF rfl rfl) ?_
      clear hF; intro a hF
      refine seq_yl hF (wn_t hF rfl rfl rfl rfl) rfl rfl (yl_move hF rfl rfl) ?_
      clear hF; intro a hF
      refine seq_yl hF (wn_t hF rfl rfl rfl rfl) rfl rfl (yl_move hF rfl rfl) ?_
      clear hF; intro a hF
      refine seq_wp (wn_t hF rfl rfl rfl rfl) (wp_call (vs := [_, _]) hF rfl rfl rfl rfl cf15 (sameR_any _ _ T T _ (hS.rdRow 2 rfl) (hS.rdRow 1 rfl) (by first | omega | (simp; done) | (simp; omega))) ?_)
      clear hF; rintro _ w ⟨rfl, hS1⟩ a hF
      replace hS := hS.callB hS1 rfl; clear hS1
      replace hF := fr_set (b' := true) hF (by simp)
      refine seq_yl hF (wn_none rfl) rfl rfl (yl_pick (u := _) (v := undef) hF rfl rfl (fun _ => rfl) (fun h => by cases h)) ?_
      clear hF; intro a hF
      refine seq_yl hF (wn_none rfl) rfl rfl (yl_move hF rfl rfl) ?_
      clear hF; intro a hF
      refine seq_yl hF (wn_t hF rfl rfl rfl rfl) rfl rfl (yl_loadK (rs := [_, _, _, _]) (fun _ h => h ▸ hS) hF rfl rfl 0 rfl ag27 sz27 rfl rfl) ?_
      clear hF; intro a hF
      refine seq_yl hF (wn_t hF rfl rfl rfl rfl) rfl rfl (yl_build (parts := []) (vs := []) (cs := [_, _, _, _]) hF bd27 rfl rfl rfl rfl) ?_
      clear hF; intro a hF
      refine seq_yl hF (wn_t hF rfl rfl rfl rfl) rfl rfl (yl_binA hF rfl rfl rfl (fun w => run_eqGuard_agg w _ _ _ _ _ _ hm27) (fun w => eqs27 _ _ _ _ _ _ _ _ w)) ?_
      clear hF; intro a hF
      replace hF := fr_set (b' := true) hF (by decide)
      refine seq_yl hF (wn_none rfl) rfl rfl (yl_pick (u := _) (v := undef) hF rfl rfl (fun _ => rfl) (fun h => by cases h)) ?_
      clear hF; intro a hF
      refine seq_yl hF (wn_none rfl) rfl rfl (yl_move hF rfl rfl) ?_
      clear hF; intro a hF
      refine seq_wp (wn_t hF rfl rfl rfl rfl) (wp_call (vs := []) hF rfl rfl rfl rfl cf18 (awake_any _) ?_)
      clear hF; rintro _ w ⟨rfl, hS1⟩ a hF
      replace hS := hS.callB hS1 rfl; clear hS1
      refine seq_yl hF (wn_none rfl) rfl rfl (yl_pick (u := _) (v := undef) hF rfl rfl (fun _ => rfl) (fun h => by cases h)) ?_
      clear hF; intro a hF
      refine seq_yl hF (wn_none rfl) rfl rfl (yl_assign hF rfl rfl) ?_
      clear hF; intro a hF
      refine wpList_nil ?_
      refine then_n ?_
      refine wp_ret ?_
      refine ret_t hF rfl rfl ?_
      exact ⟨_, rfl, rfl, (hS.sub [] (by decide) (by first | rfl | simp) (by simp))⟩

end Go.Proofs.Ytkejcnhfbfgphaa

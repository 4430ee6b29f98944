/- walks, printed by wip/gen -/
import Derived.Test.YtllcklmbbkafgaaW1
namespace Go.Proofs.Ytllcklmbbkafgaa
open Go.RowKit
set_option linter.unusedVariables false
set_option linter.unusedSimpArgs false

theorem new_any (d n : Int) (w0 : World) :
    Fn Try.prog 9 #[.int .i64 d, .int .i64 n] w0 (fun v w' => ∃ v1, v = .tuple #[.agg #[v1, .int .i64 (bif newOk d n then n else 0), .int .i64 (bif newOk d n then n else 0)], .int .i64 (bif newOk d n then 0 else 2)] ∧ Sat w0 w' [.row 3 1 v1 (bif newOk d n then List.replicate d.toNat (0 : Int) else []).length (cells encI (bif newOk d n then List.replicate d.toNat (0 : Int) else []))]) := by
  refine c_enter (N := 23) (l := [_, _]) Try.func9 rfl rfl (fun a w hF hS => ?_)
  refine c_seq ?_
  refine c_region ?_
  refine seq_wp (wn_none rfl) (wp_alloc (cs := #[_, _, _]) hF hS rfl rfl rfl zr27 rfl ?_)
  clear hF hS; intro a w g28 hF hS
  refine seq_yl hF (wn_none rfl) rfl rfl (yl_assign hF rfl rfl) ?_
  clear hF; intro a hF
  refine wpList_nil ?_
  refine then_n ?_
  refine c_seq ?_
  refine c_seq ?_
  refine c_region ?_
  refine seq_yl hF (wn_none rfl) rfl rfl (yl_move hF rfl rfl) ?_
  clear hF; intro a hF
  refine seq_yl hF (wn_none rfl) rfl rfl (yl_bin hF rfl rfl rfl rfl (fun _ => run_lss)) ?_
  clear hF; intro a hF
  refine seq_yl hF (wn_none rfl) rfl rfl (yl_move hF rfl rfl) ?_
  clear hF; intro a hF
  refine fr_split hF (fun hc29 hF => ?_) (fun hc29 hF => ?_)
  · first | (replace hc29 := of_decide_eq_true hc29) | (replace hc29 := of_decide_eq_false (bnot_t hc29)) | (subst hc29) | (replace hc29 := bnot_t hc29; subst hc29) | (replace hc29 := bnot_t hc29) | skip
    refine seq_skip hF (wn_f hF rfl rfl rfl rfl) rfl rfl ?_
    clear hF; intro a hF
    refine seq_skip hF (wn_f hF rfl rfl rfl rfl) rfl rfl ?_
    clear hF; intro a hF
    refine seq_yl hF (wn_none rfl) rfl rfl (yl_pick (u := _) (v := undef) hF rfl rfl (fun _ => rfl) (fun h => by cases h)) ?_
    clear hF; intro a hF
    refine seq_yl hF (wn_none rfl) rfl rfl (yl_move hF rfl rfl) ?_
    clear hF; intro a hF
    refine seq_skip hF (wn_f hF rfl rfl rfl rfl) rfl rfl ?_
    clear hF; intro a hF
    refine seq_skip hF (wn_f hF rfl rfl rfl rfl) rfl rfl ?_
    clear hF; intro a hF
    refine seq_skip hF (wn_f hF rfl rfl rfl rfl) rfl rfl ?_
    clear hF; intro a hF
    refine seq_yl hF (wn_none rfl) rfl rfl (yl_pick (u := _) (v := undef) hF rfl rfl (fun _ => rfl) (fun h => by cases h)) ?_
    clear hF; intro a hF
    refine wpList_nil ?_
    refine then_n ?_
    refine c_cond_t hF rfl ?_
    refine c_seq ?_
    refine c_region ?_
    refine seq_yl hF (wn_none rfl) rfl rfl (yl_build (parts := []) (vs := []) (cs := [_, _, _]) hF bd27 rfl rfl rfl rfl) ?_
    clear hF; intro a hF
    refine seq_wp (wn_none rfl) (wp_store (cs' := #[_, _, _]) hF hS rfl rfl rfl rfl 0 rfl sz27 (by simp [Value.cells, Value.oneCell']) (by simp [Value.cells]) rfl ?_)
    clear hF hS; intro a w hF hS
    refine seq_yl hF (wn_none rfl) rfl rfl (yl_assign hF rfl rfl) ?_
    clear hF; intro a hF
    refine wpList_nil ?_
    refine then_n ?_
    refine wp_ret ?_
    refine then_r ?_
    refine ret_ct hF rfl (resC hS rfl 0 rfl ag27 sz27) rfl ?_
    have hok : newOk d n = false := newOk_f (by omega)
    rw [hok]; simp only [cond_true, cond_false]
    replace hS := hS.addNil 3 1
    exact ⟨_, rfl, _, rfl, (hS.sub [0] (by decide) (by first | rfl | simp) (by simp))⟩
  · first | (replace hc29 := of_decide_eq_false hc29) | (replace hc29 := of_decide_eq_true (bnot_f hc29)) | (subst hc29) | (replace hc29 := bnot_f hc29; subst hc29) | (replace hc29 := bnot_f hc29) | skip
    refine seq_yl hF (wn_t hF rfl rfl rfl rfl) rfl rfl (yl_move hF rfl rfl) ?_
    clear hF; intro a hF
    refine seq_yl hF (wn_t hF rfl rfl rfl rfl) rfl rfl (yl_bin hF rfl rfl rfl rfl (fun _ => run_gtr)) ?_
    clear hF; intro a hF
    refine seq_yl hF (wn_none rfl) rfl rfl (yl_pick (u := _) (v := undef) hF rfl rfl (fun h => by cases h) (fun _ => rfl)) ?_
    clear hF; intro a hF
    refine seq_yl hF (wn_none rfl) rfl rfl (yl_move hF rfl rfl) ?_
    clear hF; intro a hF
    refine fr_split hF (fun hc31 hF => ?_) (fun hc31 hF => ?_)
    · first | (replace hc31 := of_decide_eq_true hc31) | (replace hc31 := of_decide_eq_false (bnot_t hc31)) | (subst hc31) | (replace hc31 := bnot_t hc31; subst hc31) | (replace hc31 := bnot_t hc31) | skip
      refine seq_skip hF (wn_f hF rfl rfl rfl rfl) rfl rfl ?_
      clear hF; intro a hF
      refine seq_skip hF (wn_f hF rfl rfl rfl rfl) rfl rfl ?_
      clear hF; intro a hF
      refine seq_skip hF (wn_f hF rfl rfl rfl rfl) rfl rfl ?_
      clear hF; intro a hF
      refine seq_yl hF (wn_none rfl) rfl rfl (yl_pick (u := _) (v := undef) hF rfl rfl (fun _ => rfl) (fun h => by cases h)) ?_
      clear hF; intro a hF
      refine wpList_nil ?_
      refine then_n ?_
      refine c_cond_t hF rfl ?_
      refine c_seq ?_
      refine c_region ?_
      refine seq_yl hF (wn_none rfl) rfl rfl (yl_build (parts := []) (vs := []) (cs := [_, _, _]) hF bd27 rfl rfl rfl rfl) ?_
      clear hF; intro a hF
      refine seq_wp (wn_none rfl) (wp_store (cs' := #[_, _, _]) hF hS rfl rfl rfl rfl 0 rfl sz27 (by simp [Value.cells, Value.oneCell']) (by simp [Value.cells]) rfl ?_)
      clear hF hS; intro a w hF hS
      refine seq_yl hF (wn_none rfl) rfl rfl (yl_assign hF rfl rfl) ?_
      clear hF; intro a hF
      refine wpList_nil ?_
      refine then_n ?_
      refine wp_ret ?_
      refine then_r ?_
      refine ret_ct hF rfl (resC hS rfl 0 rfl ag27 sz27) rfl ?_
      have hok : newOk d n = false := newOk_f (by omega)
      rw [hok]; simp only [cond_true, cond_false]
      replace hS := hS.addNil 3 1
      exact ⟨_, rfl, _, rfl, (hS.sub [0] (by decide) (by first | rfl | simp) (by simp))⟩
    · first | (replace hc31 := of_decide_eq_false hc31) | (replace hc31 := of_decide_eq_true (bnot_f hc31)) | (subst hc31) | (replace hc31 := bnot_f hc31; subst hc31) | (replace hc31 := bnot_f hc31) | skip
      refine seq_yl hF (wn_t hF rfl rfl rfl rfl) rfl rfl (yl_move hF rfl rfl) ?_
      clear hF; intro a hF
      refine seq_wp (wn_t hF rfl rfl rfl rfl) (wp_call (vs := [_, _]) hF rfl rfl rfl rfl cf24 (tick_any (n) (1 : Int) _) ?_)
      clear hF; rintro _ w ⟨rfl, hS1⟩ a hF
      replace hS := hS.callB hS1 rfl; clear hS1
      refine seq_yl hF (wn_t hF rfl rfl rfl rfl) rfl rfl (yl_un hF rfl rfl (fun _ => run_not)) ?_
      clear hF; intro a hF
      refine seq_yl hF (wn_none rfl) rfl rfl (yl_pick (u := _) (v := undef) hF rfl rfl (fun h => by cases h) (fun _ => rfl)) ?_
      clear hF; intro a hF
      refine wpList_nil ?_
      refine then_n ?_
      refine c_cond hF rfl (fun hc33 => ?_) (fun hc33 => ?_)
      · first | (replace hc33 := of_decide_eq_true hc33) | (replace hc33 := of_decide_eq_false (bnot_t hc33)) | (subst hc33) | (replace hc33 := bnot_t hc33; subst hc33) | (replace hc33 := bnot_t hc33) | skip
        refine c_seq ?_
        refine c_region ?_
        refine seq_yl hF (wn_none rfl) rfl rfl (yl_build (parts := []) (vs := []) (cs := [_, _, _]) hF bd27 rfl rfl rfl rfl) ?_
        clear hF; intro a hF
        refine seq_wp (wn_none rfl) (wp_store (cs' := #[_, _, _]) hF hS rfl rfl rfl rfl 0 rfl sz27 (by simp [Value.cells, Value.oneCell']) (by simp [Value.cells]) rfl ?_)
        clear hF hS; intro a w hF hS
        refine seq_yl hF (wn_none rfl) rfl rfl (yl_assign hF rfl rfl) ?_
        clear hF; intro a hF
        refine wpList_nil ?_
        refine then_n ?_
        refine wp_ret ?_
        refine then_r ?_
        refine ret_ct hF rfl (resC hS rfl 0 rfl ag27 sz27) rfl ?_
        have hok : newOk d n = false := newOk_f (by omega)
        rw [hok]; simp only [cond_true, cond_false]
        replace hS := hS.addNil 3 1
        exact ⟨_, rfl, _, rfl, (hS.sub [0] (by decide) (by first | rfl | simp) (by simp))⟩
      · first | (replace hc33 := of_decide_eq_false hc33) | (replace hc33 := of_decide_eq_true (bnot_f hc33)) | (subst hc33) | (replace hc33 := bnot_f hc33; subst hc33) | (replace hc33 := bnot_f hc33) | skip
        refine wp_skip ?_
        refine then_n ?_
        refine c_seq ?_
        refine c_region ?_
        refine seq_yl hF (wn_none rfl) rfl rfl (yl_move hF rfl rfl) ?_
        clear hF; intro a hF
        refine seq_wp (wn_none rfl) (wp_make (m := ((d)).toNat) (enc := encI) hF hS rfl rfl rfl rfl rfl (by omega) sl22 inf3 (0 : Int) made_I (by omega) (by omega) (by omega) ?_)
        clear hF hS; intro a w v35 hF hS
        obtain ⟨Av35, cv35, rfl⟩ := hS.form 0 rfl
        refine seq_yl hF (wn_none rfl) rfl rfl (yl_move hF rfl rfl) ?_
        clear hF; intro a hF
        refine seq_yl hF (wn_none rfl) rfl rfl (yl_move hF rfl rfl) ?_
        clear hF; intro a hF
        refine seq_yl hF (wn_none rfl) rfl rfl (yl_build (parts := [(0, .tmp 19), (1, .tmp 20), (2, .tmp 21)]) (vs := [(0, _), (1, _), (2, _)]) (cs := [_, _, _]) hF bd27 rfl rfl rfl rfl) ?_
        clear hF; intro a hF
        refine seq_wp (wn_none rfl) (wp_store (cs' := #[_, _, _]) hF hS rfl rfl rfl rfl 1 rfl sz27 (by simp [Value.cells, Value.oneCell']) (by simp [Value.cells]) rfl ?_)
        clear hF hS; intro a w hF hS
        refine seq_yl hF (wn_none rfl) rfl rfl (yl_assign hF rfl rfl) ?_
        clear hF; intro a hF
        refine wpList_nil ?_
        refine then_n ?_
        refine wp_ret ?_
        refine ret_ct hF rfl (resC hS rfl 1 rfl ag27 sz27) rfl ?_
        have hok : newOk d n = true := newOk_t (by omega)
        rw [hok]; simp only [cond_true, cond_false]
        exact ⟨_, rfl, _, rfl, (hS.sub [0] (by decide) (by first | rfl | simp) (by simp))⟩

theorem new_ok (d n : Int) (w0 : World) (h : 1 ≤ d ∧ d ≤ 4 ∧ 1 ≤ n ∧ n ≤ 1000000) : Fn Try.prog 9 #[.int .i64 d, .int .i64 n] w0 (fun v w' => ∃ v1, v = .tuple #[.agg #[v1, .int .i64 n, .int .i64 n], .int .i64 0] ∧ Sat w0 w' [.row 3 1 v1 (List.replicate d.toNat (0 : Int)).length (cells encI (List.replicate d.toNat (0 : Int)))]) := by
  have := new_any d n w0
  rw [newOk_t h] at this
  exact this

theorem new2_any (d n : Int) (w0 : World) :
    Fn Try.prog 10 #[.int .i64 d, .int .i64 n] w0 (fun v w' => ∃ v1, v = .tuple #[.agg #[v1, .int .i64 (bif newOk d n then n else 0), .int .i64 (bif newOk d n then n else 0)], .int .i64 (bif newOk d n then 0 else 2)] ∧ Sat w0 w' [.row 3 1 v1 (bif newOk d n then List.replicate d.toNat (0 : Int) else []).length (cells encI (bif newOk d n then List.replicate d.toNat (0 : Int) else []))]) := by
  refine c_enter (N := 26) (l := [_, _]) Try.func10 rfl rfl (fun a w hF hS => ?_)
  refine c_seq ?_
  refine c_region ?_
  refine seq_wp (wn_none rfl) (wp_alloc (cs := #[_, _, _]) hF hS rfl rfl rfl zr27 rfl ?_)
  clear hF hS; intro a w g36 hF hS
  refine seq_yl hF (wn_none rfl) rfl rfl (yl_assign hF rfl rfl) ?_
  clear hF; intro a hF
  refine wpList_nil ?_
  refine then_n ?_
  refine c_seq ?_
  refine c_seq ?_
  refine c_region ?_
  refine seq_yl hF (wn_none rfl) rfl rfl (yl_move hF rfl rfl) ?_
  clear hF; intro a hF
  refine seq_yl hF (wn_none rfl) rfl rfl (yl_bin hF rfl rfl rfl rfl (fun _ => run_lss)) ?_
  clear hF; intro a hF
  refine seq_yl hF (wn_none rfl) rfl rfl (yl_move hF rfl rfl) ?_
  clear hF; intro a hF
  refine fr_split hF (fun hc37 hF => ?_) (fun hc37 hF => ?_)
  · first | (replace hc37 := of_decide_eq_true hc37) | (replace hc37 := of_decide_eq_false (bnot_t hc37)) | (subst hc37) | (replace hc37 := bnot_t hc37; subst hc37) | (replace hc37 := bnot_t hc37) | skip
    refine seq_skip hF (wn_f hF rfl rfl rfl rfl) rfl rfl ?_
    clear hF; intro a hF
    refine seq_skip hF (wn_f hF rfl rfl rfl rfl) rfl rfl ?_
    clear hF; intro a hF
    refine seq_yl hF (wn_none rfl) rfl rfl (yl_pick (u := _) (v := undef) hF rfl rfl (fun _ => rfl) (fun h => by cases h)) ?_
    clear hF; intro a hF
    refine seq_yl hF (wn_none rfl) rfl rfl (yl_move hF rfl rfl) ?_
    clear hF; intro a hF
    refine seq_skip hF (wn_f hF rfl rfl rfl rfl) rfl rfl ?_
    clear hF; intro a hF
    refine seq_skip hF (wn_f hF rfl rfl rfl rfl) rfl rfl ?_
    clear hF; intro a hF
    refine seq_yl hF (wn_none rfl) rfl rfl (yl_pick (u := _) (v := undef) hF rfl rfl (fun _ => rfl) (fun h => by cases h)) ?_
    clear hF; intro a hF
    refine seq_yl hF (wn_none rfl) rfl rfl (yl_move hF rfl rfl) ?_
    clear hF; intro a hF
    refine seq_skip hF (wn_f hF rfl rfl rfl rfl) rfl rfl ?_
    clear hF; intro a hF
    refine seq_skip hF (wn_f hF rfl rfl rfl rfl) rfl rfl ?_
    clear hF; intro a hF
    refine seq_yl hF (wn_none rfl) rfl rfl (yl_pick (u := _) (v := undef) hF rfl rfl (fun _ => rfl) (fun h => by cases h)) ?_
    clear hF; intro a hF
    refine wpList_nil ?_
    refine then_n ?_
    refine c_cond_t hF rfl ?_
    refine c_seq ?_
    refine c_region ?_
    refine seq_yl hF (wn_none rfl) rfl rfl (yl_build (parts := []) (vs := []) (cs := [_, _, _]) hF bd27 rfl rfl rfl rfl) ?_
    clear hF; intro a hF
    refine seq_wp (wn_none rfl) (wp_store (cs' := #[_, _, _]) hF hS rfl rfl rfl rfl 0 rfl sz27 (by simp [Value.cells, Value.oneCell']) (by simp [Value.cells]) rfl ?_)
    clear hF hS; intro a w hF hS
    refine seq_yl hF (wn_none rfl) rfl rfl (yl_assign hF rfl rfl) ?_
    clear hF; intro a hF
    refine wpList_nil ?_
    refine then_n ?_
    refine wp_ret ?_
    refine then_r ?_
    refine ret_ct hF rfl (resC hS rfl 0 rfl ag27 sz27) rfl ?_
    have hok : newOk d n = false := newOk_f (by omega)
    rw [hok]; simp only [cond_true, cond_false]
    replace hS := hS.addNil 3 1
    exact ⟨_, rfl, _, rfl, (hS.sub [0] (by decide) (by first | rfl | simp) (by simp))⟩
  · first | (replace hc37 := of_decide_eq_false hc37) | (replace hc37 := of_decide_eq_true (bnot_f hc37)) | (subst hc37) | (replace hc37 := bnot_f hc37; subst hc37) | (replace hc37 := bnot_f hc37) | skip
    refine seq_yl hF (wn_t hF rfl rfl rfl rfl) rfl rfl (yl_move hF rfl rfl) ?_
    clear hF; intro a hF
    refine seq_yl hF (wn_t hF rfl rfl rfl rfl) rfl rfl (yl_bin hF rfl rfl rfl rfl (fun _ => run_gtr)) ?_
    clear hF; intro a hF
    refine seq_yl hF (wn_none rfl) rfl rfl (yl_pick (u := _) (v := undef) hF rfl rfl (fun h => by cases h) (fun _ => rfl)) ?_
    clear hF; intro a hF
    refine seq_yl hF (wn_none rfl) rfl rfl (yl_move hF rfl rfl) ?_
    clear hF; intro a hF
    refine fr_split hF (fun hc39 hF => ?_) (fun hc39 hF => ?_)
    · first | (replace hc39 := of_decide_eq_true hc39) | (replace hc39 := of_decide_eq_false (bnot_t hc39)) | (subst hc39) | (replace hc39 := bnot_t hc39; subst hc39) | (replace hc39 := bnot_t hc39) | skip
      refine seq_skip hF (wn_f hF rfl rfl rfl rfl) rfl rfl ?_
      clear hF; intro a hF
      refine seq_skip hF (wn_f hF rfl rfl rfl rfl) rfl rfl ?_
      clear hF; intro a hF
      refine seq_yl hF (wn_none rfl) rfl rfl (yl_pick (u := _) (v := undef) hF rfl rfl (fun _ => rfl) (fun h => by cases h)) ?_
      clear hF; intro a hF
      refine seq_yl hF (wn_none rfl) rfl rfl (yl_move hF rfl rfl) ?_
      clear hF; intro a hF
      refine seq_skip hF (wn_f hF rfl rfl rfl rfl) rfl rfl ?_
      clear hF; intro a hF
      refine seq_skip hF (wn_f hF rfl rfl rfl rfl) rfl rfl ?_
      clear hF; intro a hF
      refine seq_yl hF (wn_none rfl) rfl rfl (yl_pick (u := _) (v := undef) hF rfl rfl (fun _ => rfl) (fun h => by cases h)) ?_
      clear hF; intro a hF
      refine wpList_nil ?_
      refine then_n ?_
      refine c_cond_t hF rfl ?_
      refine c_seq ?_
      refine c_region ?_
      refine seq_yl hF (wn_none rfl) rfl rfl (yl_build (parts := []) (vs := []) (cs := [_, _, _]) hF bd27 rfl rfl rfl rfl) ?_
      clear hF; intro a hF
      refine seq_wp (wn_none rfl) (wp_store (cs' := #[_, _, _]) hF hS rfl rfl rfl rfl 0 rfl sz27 (by simp [Value.cells, Value.oneCell']) (by simp [Value.cells]) rfl ?_)
      clear hF hS; intro a w hF hS
      refine seq_yl hF (wn_none rfl) rfl rfl (yl_assign hF rfl rfl) ?_
      clear hF; intro a hF
      refine wpList_nil ?_
      refine then_n ?_
      refine wp_ret ?_
      refine then_r ?_
      refine ret_ct hF rfl (resC hS rfl 0 rfl ag27 sz27) rfl ?_
      have hok : newOk d n = false := newOk_f (by omega)
      rw [hok]; simp only [cond_true, cond_false]
      replace hS := hS.addNil 3 1
      exact ⟨_, rfl, _, rfl, (hS.sub [0] (by decide) (by first | rfl | simp) (by simp))⟩
    · first | (replace hc39 := of_decide_eq_false hc39) | (replace hc39 := of_decide_eq_true (bnot_f hc39)) | (subst hc39) | (replace hc39 := bnot_f hc39; subst hc39) | (replace hc39 := bnot_f hc39) | skip
      refine seq_yl hF (wn_t hF rfl rfl rfl rfl) rfl rfl (yl_move hF rfl rfl) ?_
      clear hF; intro a hF
      refine seq_yl hF (wn_t hF rfl rfl rfl rfl) rfl rfl (yl_bin hF rfl rfl rfl rfl (fun _ => run_lss)) ?_
      clear hF; intro a hF
      refine seq_yl hF (wn_none rfl) rfl rfl (yl_pick (u := _) (v := undef) hF rfl rfl (fun h => by cases h) (fun _ => rfl)) ?_
      clear hF; intro a hF
      refine seq_yl hF (wn_none rfl) rfl rfl (yl_move hF rfl rfl) ?_
      clear hF; intro a hF
      refine fr_split hF (fun hc41 hF => ?_) (fun hc41 hF => ?_)
      · first | (replace hc41 := of_decide_eq_true hc41) | (replace hc41 := of_decide_eq_false (bnot_t hc41)) | (subst hc41) | (replace hc41 := bnot_t hc41; subst hc41) | (replace hc41 := bnot_t hc41) | skip
        refine seq_skip hF (wn_f hF rfl rfl rfl rfl) rfl rfl ?_
        clear hF; intro a hF
        refine seq_skip hF (wn_f hF rfl rfl rfl rfl) rfl rfl ?_
        clear hF; intro a hF
        refine seq_yl hF (wn_none rfl) rfl rfl (yl_pick (u := _) (v := undef) hF rfl rfl (fun _ => rfl) (fun h => by cases h)) ?_
        clear hF; intro a hF
        refine wpList_nil ?_
        refine then_n ?_
        refine c_cond_t hF rfl ?_
        refine c_seq ?_
        refine c_region ?_
        refine seq_yl hF (wn_none rfl) rfl rfl (yl_build (parts := []) (vs := []) (cs := [_, _, _]) hF bd27 rfl rfl rfl rfl) ?_
        clear hF; intro a hF
        refine seq_wp (wn_none rfl) (wp_store (cs' := #[_, _, _]) hF hS rfl rfl rfl rfl 0 rfl sz27 (by simp [Value.cells, Value.oneCell']) (by simp [Value.cells]) rfl ?_)
        clear hF hS; intro a w hF hS
        refine seq_yl hF (wn_none rfl) rfl rfl (yl_assign hF rfl rfl) ?_
        clear hF; intro a hF
        refine wpList_nil ?_
        refine then_n ?_
        refine wp_ret ?_
        refine then_r ?_
        refine ret_ct hF rfl (resC hS rfl 0 rfl ag27 sz27) rfl ?_
        have hok : newOk d n = false := newOk_f (by omega)
        rw [hok]; simp only [cond_true, cond_false]
        replace hS := hS.addNil 3 1
        exact ⟨_, rfl, _, rfl, (hS.sub [0] (by decide) (by first | rfl | simp) (by simp))⟩
      · first | (replace hc41 := of_decide_eq_false hc41) | (replace hc41 := of_decide_eq_true (bnot_f hc41)) | (subst hc41) | (replace hc41 := bnot_f hc41; subst hc41) | (replace hc41 := bnot_f hc41) | skip
        refine seq_yl hF (wn_t hF rfl rfl rfl rfl) rfl rfl (yl_move hF rfl rfl) ?_
        clear hF; intro a hF
        refine seq_yl hF (wn_t hF rfl rfl rfl rfl) rfl rfl (yl_bin hF rfl rfl rfl rfl (fun _ => run_gtr)) ?_
        clear hF; intro a hF
        refine seq_yl hF (wn_none rfl) rfl rfl (yl_pick (u := _) (v := undef) hF rfl rfl (fun h => by cases h) (fun _ => rfl)) ?_
        clear hF; intro a hF
        refine wpList_nil ?_
        refine then_n ?_
        refine c_cond hF rfl (fun hc43 => ?_) (fun hc43 => ?_)
        · first | (replace hc43 := of_decide_eq_true hc43) | (replace hc43 := of_decide_eq_false (bnot_t hc43)) | (subst hc43) | (replace hc43 := bnot_t hc43; subst hc43) | (replace hc43 := bnot_t hc43) | skip
          refine c_seq ?_
          refine c_region ?_
          refine seq_yl hF (wn_none rfl) rfl rfl (yl_build (parts := []) (vs := []) (cs := [_, _, _]) hF bd27 rfl rfl rfl rfl) ?_
          clear hF; intro a hF
          refine seq_wp (wn_none rfl) (wp_store (cs' := #[_, _, _]) hF hS rfl rfl rfl rfl 0 rfl sz27 (by simp [Value.cells, Value.oneCell']) (by simp [Value.cells]) rfl ?_)
          clear hF hS; intro a w hF hS
          refine seq_yl hF (wn_none rfl) rfl rfl (yl_assign hF rfl rfl) ?_
          clear hF; intro a hF
          refine wpList_nil ?_
          refine then_n ?_
          refine wp_ret ?_
          refine then_r ?_
          refine ret_ct hF rfl (resC hS rfl 0 rfl ag27 sz27) rfl ?_
          have hok : newOk d n = false := newOk_f (by omega)
          rw [hok]; simp only [cond_true, cond_false]
          replace hS := hS.addNil 3 1
          exact ⟨_, rfl, _, rfl, (hS.sub [0] (by decide) (by first | rfl | simp) (by simp))⟩
        · first | (replace hc43 := of_decide_eq_false hc43) | (replace hc43 := of_decide_eq_true (bnot_f hc43)) | (subst hc43) | (replace hc43 := bnot_f hc43; subst hc43) | (replace hc43 := bnot_f hc43) | skip
          refine wp_skip ?_
          refine then_n ?_
          refine c_seq ?_
          refine c_region ?_
          refine seq_yl hF (wn_none rfl) rfl rfl (yl_move hF rfl rfl) ?_
          clear hF; intro a hF
          refine seq_wp (wn_none rfl) (wp_make (m := ((d)).toNat) (enc := encI) hF hS rfl rfl rfl rfl rfl (by omega) sl22 inf3 (0 : Int) made_I (by omega) (by omega) (by omega) ?_)
          clear hF hS; intro a w v45 hF hS
          obtain ⟨Av45, cv45, rfl⟩ := hS.form 0 rfl
          refine seq_yl hF (wn_none rfl) rfl rfl (yl_move hF rfl rfl) ?_
          clear hF; intro a hF
          refine seq_yl hF (wn_none rfl) rfl rfl (yl_move hF rfl rfl) ?_
          clear hF; intro a hF
          refine seq_yl hF (wn_none rfl) rfl rfl (yl_build (parts := [(0, .tmp 22), (1, .tmp 23), (2, .tmp 24)]) (vs := [(0, _), (1, _), (2, _)]) (cs := [_, _, _]) hF bd27 rfl rfl rfl rfl) ?_
          clear hF; intro a hF
          refine seq_wp (wn_none rfl) (wp_store (cs' := #[_, _, _]) hF hS rfl rfl rfl rfl 1 rfl sz27 (by simp [Value.cells, Value.oneCell']) (by simp [Value.cells]) rfl ?_)
          clear hF hS; intro a w hF hS
          refine seq_yl hF (wn_none rfl) rfl rfl (yl_assign hF rfl rfl) ?_
          clear hF; intro a hF
          refine wpList_nil ?_
          refine then_n ?_
          refine wp_ret ?_
          refine ret_ct hF rfl (resC hS rfl 1 rfl ag27 sz27) rfl ?_
          have hok : newOk d n = true := newOk_t (by omega)
          rw [hok]; simp only [cond_true, cond_false]
          exact ⟨_, rfl, _, rfl, (hS.sub [0] (by decide) (by first | rfl | simp) (by simp))⟩

theorem new2_ok (d n : Int) (w0 : World) (h : 1 ≤ d ∧ d ≤ 4 ∧ 1 ≤ n ∧ n ≤ 1000000) : Fn Try.prog 10 #[.int .i64 d, .int .i64 n] w0 (fun v w' => ∃ v1, v = .tuple #[.agg #[v1, .int .i64 n, .int .i64 n], .int .i64 0] ∧ Sat w0 w' [.row 3 1 v1 (List.replicate d.toNat (0 : Int)).length (cells encI (List.replicate d.toNat (0 : Int)))]) := by
  have := new2_any d n w0
  rw [newOk_t h] at this
  exact this

theorem comp_any (v : Value) (L : List Int) (p q : Int) (d n : Int) (w0 : World) (hv : Rd w0 1 v (L).length (cells encI (L))) (hL : L.length ≤ 1000000) :
    Fn Try.prog 11 #[.agg #[v, .int .i64 p, .int .i64 q], .int .i64 d, .int .i64 n] w0 (fun v w' => ∃ v1, v = .tuple #[.agg #[v1, .int .i64 p, .int .i64 (stF L p q d n).2], .int .i64 (errF L p q d n)] ∧ Sat w0 w' [.row 3 1 v1 ((stF L p q d n).1).length (cells encI ((stF L p q d n).1))]) := by
  obtain ⟨Av, cv, rfl⟩ := Rd.form hv
  refine c_enter (N := 77) (l := [_, _, _]) Try.func11 rfl rfl (fun a w hF hS => ?_)
  replace hS := hS.addRo hv
  refine c_seq ?_
  refine c_region ?_
  refine seq_wp (wn_none rfl) (wp_box (cs := #[_, _, _]) hF hS rfl rfl rfl rfl rfl ?_)
  clear hF hS; intro a w g46 hF hS
  refine seq_wp (wn_none rfl) (wp_alloc (cs := #[_, _, _]) hF hS rfl rfl rfl zr27 rfl ?_)
  clear hF hS; intro a w g47 hF hS
  refine seq_yl hF (wn_none rfl) rfl rfl (yl_assign hF rfl rfl) ?_
  clear hF; intro a hF
  refine wpList_nil ?_
  refine then_n ?_
  refine c_seq ?_
  refine ha_startS hS [1] 10 (by kernel_rfl) ?_; clear hS; intro w hS
  have hSS := hS.sub [1] (by decide) rfl (by simp)
  refine ha_yl 0 hF rfl rfl rfl (by kernel_rfl) (by kernel_rfl) (by kernel_rfl) (by decide) (fun _ _ _ h => h) (wn_none rfl) (.inr hSS) (yl_fieldAddr hF rfl rfl (fun w => by kernel_rfl : ∀ w, (Instr.fieldAt 27 (.pointer (some ⟨g46, 0, none⟩)) 0).run Try.prog w = .ok (.pointer (some ⟨g46, 0, none⟩)) w)) ?_
  clear hF; intro a hF
  refine ha_yl 3 hF rfl rfl rfl (by kernel_rfl) (by kernel_rfl) (by kernel_rfl) (by decide) (fun _ _ _ h => h) (wn_none rfl) (.inr hSS) (yl_fieldAddr hF rfl rfl (fun w => by kernel_rfl : ∀ w, (Instr.fieldAt 27 (.pointer (some ⟨g46, 0, none⟩)) 1).run Try.prog w = .ok (.pointer (some ⟨g46, 1, none⟩)) w)) ?_
  clear hF; intro a hF
  refine ha_yl 5 hF rfl rfl rfl (by kernel_rfl) (by kernel_rfl) (by kernel_rfl) (by decide) (fun _ _ _ h => h) (wn_none rfl) (.inr hSS) (yl_fieldAddr hF rfl rfl (fun w => by kernel_rfl : ∀ w, (Instr.fieldAt 27 (.pointer (some ⟨g46, 0, none⟩)) 2).run Try.prog w = .ok (.pointer (some ⟨g46, 2, none⟩)) w)) ?_
  clear hF; intro a hF
  refine ha_ld 1 hF rfl rfl rfl (by kernel_rfl) (by kernel_rfl) (by kernel_rfl) (by decide) (by kernel_rfl) (by kernel_rfl) (fun _ _ _ h => h) (wn_none rfl) hSS (yl_load (fun _ h => h) hF rfl rfl 0 rfl ag22 rfl) ?_
  clear hF; intro a hF
  refine ha_ld 4 hF rfl rfl rfl (by kernel_rfl) (by kernel_rfl) (by kernel_rfl) (by decide) (by kernel_rfl) (by kernel_rfl) (fun _ _ _ h => h) (wn_none rfl) hSS (yl_load (fun _ h => h) hF rfl rfl 0 rfl ag3 rfl) ?_
  clear hF; intro a hF
  refine ha_ld 6 hF rfl rfl rfl (by kernel_rfl) (by kernel_rfl) (by kernel_rfl) (by decide) (by kernel_rfl) (by kernel_rfl) (fun _ _ _ h => h) (wn_none rfl) hSS (yl_load (fun _ h => h) hF rfl rfl 0 rfl ag3 rfl) ?_
  clear hF; intro a hF
  refine ha_all (rs := [2, 8]) (by kernel_rfl) (by simp) ?_
  refine List.forall_mem_cons.2 ⟨?_, List.forall_mem_cons.2 ⟨?_, (fun _ h => by cases h)⟩⟩
  · skip
    refine ha_op 2 rfl (wn_none rfl) (wp_call (vs := [_]) hF rfl rfl rfl rfl cf25 (clone_any _ _ _ (hS.rdRo 2 rfl) (by first | omega | (simp; omega))) ?_)
    clear hF; rintro _ w ⟨v48, rfl, hS1⟩ a hF
    replace hS := hS.callB hS1 rfl; clear hS1
    obtain ⟨Av48, cv48, rfl⟩ := hS.form 0 rfl
    replace hSS := hS.sub [2] (by decide) rfl (by simp)
    refine ⟨.inr hSS, ?_⟩
    refine ha_yl 7 hF rfl rfl rfl (by kernel_rfl) (by kernel_rfl) (by kernel_rfl) (by decide) (fun _ _ _ h => h) (wn_none rfl) (.inr hSS) (yl_build (parts := [(0, .tmp 12), (1, .tmp 14), (2, .tmp 16)]) (vs := [(0, _), (1, _), (2, _)]) (cs := [_, _, _]) hF bd27 rfl rfl rfl rfl) ?_
    clear hF; intro a hF
    refine ha_one 8 (by kernel_rfl) rfl (wn_none rfl) (wp_alloc (cs := #[_, _, _]) hF hS rfl rfl rfl zr27 rfl ?_)
    clear hF hS; intro a w g49 hF hS
    replace hSS := hS.sub [3] (by decide) rfl (by simp)
    refine ⟨.inr hSS, ?_⟩
    refine ha_one 9 (by kernel_rfl) rfl (wn_none rfl) (wp_store (cs' := #[_, _, _]) hF hS rfl rfl rfl rfl 0 rfl sz27 (by simp [Value.cells, Value.oneCell']) (by simp [Value.cells]) rfl ?_)
    clear hF hS; intro a w hF hS
    replace hSS := hS.sub [3] (by decide) rfl (by simp)
    refine ⟨.inr hSS, ?_⟩
    refine ha_done (by kernel_rfl) ?_ _
    refine then_n ?_
    refine c_seq ?_
    refine c_seq ?_
    refine c_region ?_
    refine seq_yl hF (wn_none rfl) rfl rfl (yl_loadK (rs := [_, _, _]) (fun _ h => h ▸ hS) hF rfl rfl 3 rfl ag27 sz27 rfl rfl) ?_
    clear hF; intro a hF
    refine seq_wp (wn_none rfl) (wp_call (vs := [_]) hF rfl rfl rfl rfl cf14 (check_any _ L (p) (q) _ (hS.rdRo 4 rfl) (by first | omega | (simp; done) | (simp; omega) | (rw [stF_len]; first | omega | (simp; done) | (simp; omega)))) ?_)
    clear hF; rintro _ w ⟨rfl, hS1⟩ a hF
    replace hS := hS.callB hS1 rfl; clear hS1
    refine seq_yl hF (wn_none rfl) rfl rfl (yl_un hF rfl rfl (fun _ => run_not)) ?_
    clear hF; intro a hF
    refine wpList_nil ?_
    refine then_n ?_
    refine c_cond hF rfl (fun hc50 => ?_) (fun hc50 => ?_)
    · first | (replace hc50 := of_decide_eq_true hc50) | (replace hc50 := of_decide_eq_false (bnot_t hc50)) | (subst hc50) | (replace hc50 := bnot_t hc50; subst hc50) | (replace hc50 := bnot_t hc50) | skip
      refine c_seq ?_
      refine c_region ?_
      refine seq_yl hF (wn_none rfl) rfl rfl (yl_loadK (rs := [_, _, _]) (fun _ h => h ▸ hS) hF rfl rfl 0 rfl ag27 sz27 rfl rfl) ?_
      clear hF; intro a hF
      refine seq_wp (wn_none rfl) (wp_store (cs' := #[_, _, _]) hF hS rfl rfl rfl rfl 2 rfl sz27 (by simp [Value.cells, Value.oneCell']) (by simp [Value.cells]) rfl ?_)
      clear hF hS; intro a w hF hS
      refine seq_yl hF (wn_none rfl) rfl rfl (yl_assign hF rfl rfl) ?_
      clear hF; intro a hF
      refine wpList_nil ?_
      refine then_n ?_
      refine wp_ret ?_
      refine then_r ?_
      refine ret_ct hF rfl (resC hS rfl 2 rfl ag27 sz27) rfl ?_
      obtain ⟨hs1, hs2⟩ := st_1 (d := d) (n := n) (by assumption : chkF L p q = false)
      rw [hs1, hs2]
      exact ⟨_, rfl, _, rfl, (hS.sub [1] (by decide) (by first | rfl | simp) (by simp))⟩
    · first | (replace hc50 := of_decide_eq_false hc50) | (replace hc50 := of_decide_eq_true (bnot_f hc50)) | (subst hc50) | (replace hc50 := bnot_f hc50; subst hc50) | (replace hc50 := bnot_f hc50) | skip
      refine wp_skip ?_
      refine then_n ?_
      refine c_seq ?_
      refine c_seq ?_
      refine c_region ?_
      refine seq_yl hF (wn_none rfl) rfl rfl (yl_move hF rfl rfl) ?_
      clear hF; intro a hF
      refine seq_yl hF (wn_none rfl) rfl rfl (yl_bin hF rfl rfl rfl rfl (fun _ => run_lss)) ?_
      clear hF; intro a hF
      refine seq_yl hF (wn_none rfl) rfl rfl (yl_move hF rfl rfl) ?_
      clear hF; intro a hF
      refine fr_split hF (fun hc51 hF => ?_) (fun hc51 hF => ?_)
      · first | (replace hc51 := of_decide_eq_true hc51) | (replace hc51 := of_decide_eq_false (bnot_t hc51)) | (subst hc51) | (replace hc51 := bnot_t hc51; subst hc51) | (replace hc51 := bnot_t hc51) | skip
        refine seq_skip hF (wn_f hF rfl rfl rfl rfl) rfl rfl ?_
        clear hF; intro a hF
        refine seq_skip hF (wn_f hF rfl rfl rfl rfl) rfl rfl ?_
        clear hF; intro a hF
        refine seq_skip hF (wn_f hF rfl rfl rfl rfl) rfl rfl ?_
        clear hF; intro a hF
        refine seq_skip hF (wn_f hF rfl rfl rfl rfl) rfl rfl ?_
        clear hF; intro a hF
        refine seq_skip hF (wn_f hF rfl rfl rfl rfl) rfl rfl ?_
        clear hF; intro a hF
        refine seq_yl hF (wn_none rfl) rfl rfl (yl_pick (u := _) (v := undef) hF rfl rfl (fun _ => rfl) (fun h => by cases h)) ?_
        clear hF; intro a hF
        refine seq_yl hF (wn_none rfl) rfl rfl (yl_move hF rfl rfl) ?_
        clear hF; intro a hF
        refine seq_skip hF (wn_f hF rfl rfl rfl rfl) rfl rfl ?_
        clear hF; intro a hF
        refine seq_skip hF (wn_f hF rfl rfl rfl rfl) rfl rfl ?_
        clear hF; intro a hF
        refine seq_skip hF (wn_f hF rfl rfl rfl rfl) rfl rfl ?_
        clear hF; intro a hF
        refine seq_yl hF (wn_none rfl) rfl rfl (yl_pick (u := _) (v := undef) hF rfl rfl (fun _ => rfl) (fun h => by cases h)) ?_
        clear hF; intro a hF
        refine wpList_nil ?_
        refine then_n ?_
        refine c_cond_t hF rfl ?_
        refine c_seq ?_
        refine c_region ?_
        refine seq_yl hF (wn_none rfl) rfl rfl (yl_loadK (rs := [_, _, _]) (fun _ h => h ▸ hS) hF rfl rfl 0 rfl ag27 sz27 rfl rfl) ?_
        clear hF; intro a hF
        refine seq_wp (wn_none rfl) (wp_store (cs' := #[_, _, _]) hF hS rfl rfl rfl rfl 2 rfl sz27 (by simp [Value.cells, Value.oneCell']) (by simp [Value.cells]) rfl ?_)
        clear hF hS; intro a w hF hS
        refine seq_yl hF (wn_none rfl) rfl rfl (yl_assign hF rfl rfl) ?_
        clear hF; intro a hF
        refine wpList_nil ?_
        refine then_n ?_
        refine wp_ret ?_
        refine then_r ?_
        refine ret_ct hF rfl (resC hS rfl 2 rfl ag27 sz27) rfl ?_
        obtain ⟨hs1, hs2⟩ := st_2 (d := d) (n := n) (by assumption : chkF L p q = true) (by omega)
        rw [hs1, hs2]
        exact ⟨_, rfl, _, rfl, (hS.sub [1] (by decide) (by first | rfl | simp) (by simp))⟩
      · first | (replace hc51 := of_decide_eq_false hc51) | (replace hc51 := of_decide_eq_true (bnot_f hc51)) | (subst hc51) | (replace hc51 := bnot_f hc51; subst hc51) | (replace hc51 := bnot_f hc51) | skip
        refine seq_yl hF (wn_t hF rfl rfl rfl rfl) rfl rfl (yl_move hF rfl rfl) ?_
        clear hF; intro a hF
        refine seq_yl hF (wn_t hF rfl rfl rfl rfl) rfl rfl (yl_fieldAddr hF rfl rfl (fun w => by kernel_rfl : ∀ w, (Instr.fieldAt 27 (.pointer (some ⟨g46, 0, none⟩)) 0).run Try.prog w = .ok (.pointer (some ⟨g46, 0, none⟩)) w)) ?_
        clear hF; intro a hF
        refine seq_yl hF (wn_t hF rfl rfl rfl rfl) rfl rfl (yl_load (fun _ h => h ▸ hS) hF rfl rfl 3 rfl ag22 rfl) ?_
        clear hF; intro a hF
        refine seq_yl hF (wn_t hF rfl rfl rfl rfl) rfl rfl (yl_len hF rfl rfl (fun _ => run_lenRd sl22 (hS.rdRo 4 rfl))) ?_
        clear hF; intro a hF
        refine seq_yl hF (wn_t hF rfl rfl rfl rfl) rfl rfl (yl_bin hF rfl rfl rfl rfl (fun _ => run_geq)) ?_
        clear hF; intro a hF
        refine seq_yl hF (wn_none rfl) rfl rfl (yl_pick (u := _) (v := undef) hF rfl rfl (fun h => by cases h) (fun _ => rfl)) ?_
        clear hF; intro a hF
        refine seq_yl hF (wn_none rfl) rfl rfl (yl_move hF rfl rfl) ?_
        clear hF; intro a hF
        refine fr_split hF (fun hc52 hF => ?_) (fun hc52 hF => ?_)
        · first | (replace hc52 := of_decide_eq_true hc52) | (replace hc52 := of_decide_eq_false (bnot_t hc52)) | (subst hc52) | (replace hc52 := bnot_t hc52; subst hc52) | (replace hc52 := bnot_t hc52) | skip
          refine seq_skip hF (wn_f hF rfl rfl rfl rfl) rfl rfl ?_
          clear hF; intro a hF
          refine seq_skip hF (wn_f hF rfl rfl rfl rfl) rfl rfl ?_
          clear hF; intro a hF
          refine seq_skip hF (wn_f hF rfl rfl rfl rfl) rfl rfl ?_
          clear hF; intro a hF
          refine seq_yl hF (wn_none rfl) rfl rfl (yl_pick (u := _) (v := undef) hF rfl rfl (fun _ => rfl) (fun h => by cases h)) ?_
          clear hF; intro a hF
          refine wpList_nil ?_
          refine then_n ?_
          refine c_cond_t hF rfl ?_
          refine c_seq ?_
          refine c_region ?_
          refine seq_yl hF (wn_none rfl) rfl rfl (yl_loadK (rs := [_, _, _]) (fun _ h => h ▸ hS) hF rfl rfl 0 rfl ag27 sz27 rfl rfl) ?_
          clear hF; intro a hF
          refine seq_wp (wn_none rfl) (wp_store (cs' := #[_, _, _]) hF hS rfl rfl rfl rfl 2 rfl sz27 (by simp [Value.cells, Value.oneCell']) (by simp [Value.cells]) rfl ?_)
          clear hF hS; intro a w hF hS
          refine seq_yl hF (wn_none rfl) rfl rfl (yl_assign hF rfl rfl) ?_
          clear hF; intro a hF
          refine wpList_nil ?_
          refine then_n ?_
          refine wp_ret ?_
          refine then_r ?_
          refine ret_ct hF rfl (resC hS rfl 2 rfl ag27 sz27) rfl ?_
          obtain ⟨hs1, hs2⟩ := st_2 (d := d) (n := n) (by assumption : chkF L p q = true) (by omega)
          rw [hs1, hs2]
          exact ⟨_, rfl, _, rfl, (hS.sub [1] (by decide) (by first | rfl | simp) (by simp))⟩
        · first | (replace hc52 := of_decide_eq_false hc52) | (replace hc52 := of_decide_eq_true (bnot_f hc52)) | (subst hc52) | (replace hc52 := bnot_f hc52; subst hc52) | (replace hc52 := bnot_f hc52) | skip
          refine seq_yl hF (wn_t hF rfl rfl rfl rfl) rfl rfl (yl_move hF rfl rfl) ?_
          clear hF; intro a hF
          refine seq_wp (wn_t hF rfl rfl rfl rfl) (wp_call (vs := [_]) hF rfl rfl rfl rfl cf26 (pages_any (n) _) ?_)
          clear hF; rintro _ w ⟨rfl, hS1⟩ a hF
          replace hS := hS.callB hS1 rfl; clear hS1
          refine seq_yl hF (wn_t hF rfl rfl rfl rfl) rfl rfl (yl_un hF rfl rfl (fun _ => run_not)) ?_
          clear hF; intro a hF
          refine seq_yl hF (wn_none rfl) rfl rfl (yl_pick (u := _) (v := undef) hF rfl rfl (fun h => by cases h) (fun _ => rfl)) ?_
          clear hF; intro a hF
          refine wpList_nil ?_
          refine then_n ?_
          refine c_cond hF rfl (fun hc53 => ?_) (fun hc53 => ?_)
          · first | (replace hc53 := of_decide_eq_true hc53) | (replace hc53 := of_decide_eq_false (bnot_t hc53)) | (subst hc53) | (replace hc53 := bnot_t hc53; subst hc53) | (replace hc53 := bnot_t hc53) | skip
            refine c_seq ?_
            refine c_region ?_
            refine seq_yl hF (wn_none rfl) rfl rfl (yl_loadK (rs := [_, _, _]) (fun _ h => h ▸ hS) hF rfl rfl 0 rfl ag27 sz27 rfl rfl) ?_
            clear hF; intro a hF
            refine seq_wp (wn_none rfl) (wp_store (cs' := #[_, _, _]) hF hS rfl rfl rfl rfl 2 rfl sz27 (by simp [Value.cells, Value.oneCell']) (by simp [Value.cells]) rfl ?_)
            clear hF hS; intro a w hF hS
            refine seq_yl hF (wn_none rfl) rfl rfl (yl_assign hF rfl rfl) ?_
            clear hF; intro a hF
            refine wpList_nil ?_
            refine then_n ?_
            refine wp_ret ?_
            refine then_r ?_
            refine ret_ct hF rfl (resC hS rfl 2 rfl ag27 sz27) rfl ?_
            obtain ⟨hs1, hs2⟩ := st_2 (d := d) (n := n) (by assumption : chkF L p q = true) (by omega)
            rw [hs1, hs2]
            exact ⟨_, rfl, _, rfl, (hS.sub [1] (by decide) (by first | rfl | simp) (by simp))⟩
          · first | (replace hc53 := of_decide_eq_false hc53) | (replace hc53 := of_decide_eq_true (bnot_f hc53)) | (subst hc53) | (replace hc53 := bnot_f hc53; subst hc53) | (replace hc53 := bnot_f hc53) | skip
            refine wp_skip ?_
            refine then_n ?_
            refine c_seq ?_
            refine c_seq ?_
            refine c_region ?_
            refine seq_yl hF (wn_none rfl) rfl rfl (yl_move hF rfl rfl) ?_
            clear hF; intro a hF
            refine seq_yl hF (wn_none rfl) rfl rfl (yl_move hF rfl rfl) ?_
            clear hF; intro a hF
            refine wpList_nil ?_
            refine then_n ?_
            refine wp_block ?_
            have hchk : chkF L p q = true := by assumption
            obtain ⟨hCI, hp1, hp2, hl1, hl2⟩ := CI_of hchk
            refine c_loop (fun m a w => ∃ (k : Nat) (E : List Int) (q' : Int), m = n.toNat - k ∧ ((k : Int) ≤ n ∧ crun d.toNat p k (L, q) = (E, q') ∧ E.length = L.length) ∧ Fr 77 a [(1, .int .i64 (d)), (6, .pointer (some ⟨g47, 0, none⟩)), (8, .pointer (some ⟨g49, 0, none⟩)), (37, .int .i64 (n)), (38, .int .i64 ((k : Nat) : Int))] ∧ Sat w0 w (.box g49 27 #[.slice Av48 L.length cv48, .int .i64 (p), .int .i64 (q')] :: .row 3 1 (.slice Av48 L.length cv48) (E).length (cells encI (E)) :: .box g47 27 #[.slice none 0 0, .int .i64 (0 : Int), .int .i64 (0 : Int)] :: [])) (n.toNat - 0) ?_ ?_
            · exact ⟨0, L, q, rfl, ⟨by omega, rfl, rfl⟩, hF.to [1, 6, 8, 37, 38] rfl, (hS.sub [0, 1, 2] (by decide) (by first | rfl | simp) (by simp))⟩
            · clear hF hS; try clear hSS
              clear a w; rintro m a w ⟨k, E, q', rfl, hinv, hF, hS⟩
              have hI := crun_inv (d := d.toNat) hp1 hCI k
              rw [hinv.2.1] at hI
              have hmem := hI.2.1
              have hq1 := hI.2.2.1
              have hq2 := hI.2.2.2
              simp only at hmem hq1 hq2
              have hEl := hinv.2.2
              refine c_seq ?_
              refine c_region ?_
              refine seq_yl hF (wn_none rfl) rfl rfl (yl_bin hF rfl rfl rfl rfl (fun _ => run_lss)) ?_
              clear hF; intro a hF
              refine wpList_nil ?_
              refine then_n ?_
              refine c_seq ?_
              refine c_cond hF rfl (fun hc54 => ?_) (fun hc54 => ?_)
              · first | (replace hc54 := of_decide_eq_true hc54) | (replace hc54 := of_decide_eq_false (bnot_t hc54)) | (subst hc54) | (replace hc54 := bnot_t hc54; subst hc54) | (replace hc54 := bnot_t hc54) | skip
                refine wp_skip ?_
                refine then_n ?_
                refine c_seq ?_
                refine wp_block ?_
                refine c_seq ?_
                refine ha_startS hS [0, 1] 11 (by kernel_rfl) ?_; clear hS; intro w hS
                have hSS := hS.sub [0, 1] (by decide) rfl (by simp)
                refine ha_yl 0 hF rfl rfl rfl (by kernel_rfl) (by kernel_rfl) (by kernel_rfl) (by decide) (fun _ _ _ h => h) (wn_none rfl) (.inr hSS) (yl_fieldAddr hF rfl rfl (fun w => by kernel_rfl : ∀ w, (Instr.fieldAt 27 (.pointer (some ⟨g49, 0, none⟩)) 0).run Try.prog w = .ok (.pointer (some ⟨g49, 0, none⟩)) w)) ?_
                clear hF; intro a hF
                refine ha_yl 2 hF rfl rfl rfl (by kernel_rfl) (by kernel_rfl) (by kernel_rfl) (by decide) (fun _ _ _ h => h) (wn_none rfl) (.inr hSS) (yl_move hF rfl rfl) ?_
                clear hF; intro a hF
                replace hF := fr_seti (b' := ((d.toNat : Nat) : Int)) hF (by omega)
                refine ha_yl 3 hF rfl rfl rfl (by kernel_rfl) (by kernel_rfl) (by kernel_rfl) (by decide) (fun _ _ _ h => h) (wn_none rfl) (.inr hSS) (yl_fieldAddr hF rfl rfl (fun w => by kernel_rfl : ∀ w, (Instr.fieldAt 27 (.pointer (some ⟨g49, 0, none⟩)) 0).run Try.prog w = .ok (.pointer (some ⟨g49, 0, none⟩)) w)) ?_
                clear hF; intro a hF
                refine ha_yl 5 hF rfl rfl rfl (by kernel_rfl) (by kernel_rfl) (by kernel_rfl) (by decide) (fun _ _ _ h => h) (wn_none rfl) (.inr hSS) (yl_move hF rfl rfl) ?_
                clear hF; intro a hF
                replace hF := fr_seti (b' := ((d.toNat : Nat) : Int)) hF (by omega)
                refine ha_ld 1 hF rfl rfl rfl (by kernel_rfl) (by kernel_rfl) (by kernel_rfl) (by decide) (by kernel_rfl) (by kernel_rfl) (fun _ _ _ h => h) (wn_none rfl) hSS (yl_load (fun _ h => h) hF rfl rfl 0 rfl ag22 rfl) ?_
                clear hF; intro a hF
                refine ha_ld 4 hF rfl rfl rfl (by kernel_rfl) (by kernel_rfl) (by kernel_rfl) (by decide) (by kernel_rfl) (by kernel_rfl) (fun _ _ _ h => h) (wn_none rfl) hSS (yl_load (fun _ h => h) hF rfl rfl 0 rfl ag22 rfl) ?_
                clear hF; intro a hF
                have hlt_hx55 : d.toNat < (E).length := by first | omega | (simp; done) | (simp; omega)
                obtain ⟨ad56, rfl⟩ := rd_some (hS.rdRow 1 rfl) hlt_hx55
                obtain ⟨x55, hx55⟩ := get_some hlt_hx55
                have hb_x55 := hmem x55 (List.mem_of_getElem? hx55)
                refine ha_yl 6 hF rfl rfl rfl (by kernel_rfl) (by kernel_rfl) (by kernel_rfl) (by decide) (fun _ _ _ h => h) (wn_none rfl) (.inr hSS) (yl_indexAddr hF rfl rfl rfl (fun _ => run_idx' sl22 sz3 (hS.rdRow 1 rfl) hlt_hx55)) ?_
                clear hF; intro a hF
                refine ha_ld 7 hF rfl rfl rfl (by kernel_rfl) (by kernel_rfl) (by kernel_rfl) (by decide) (by kernel_rfl) (by kernel_rfl) (fun _ _ _ h => h) (wn_none rfl) hSS (yl_loadAt hF rfl rfl ag3 (fun _ h => rd_cell0 (Sat.rdRow h 1 rfl) encI_len hx55 rfl rfl)) ?_
                clear hF; intro a hF
                refine ha_yl 8 hF rfl rfl rfl (by kernel_rfl) (by kernel_rfl) (by kernel_rfl) (by decide) (fun _ _ _ h => h) (wn_none rfl) (.inr hSS) (yl_bin hF rfl rfl rfl rfl (fun _ => run_add (by refine ⟨?_, ?_⟩ <;> omega))) ?_
                clear hF; intro a hF
                refine ha_yl 9 hF rfl rfl rfl (by kernel_rfl) (by kernel_rfl) (by kernel_rfl) (by decide) (fun _ _ _ h => h) (wn_none rfl) (.inr hSS) (yl_min2 hF rfl rfl rfl) ?_
                clear hF; intro a hF
                refine ha_yl 10 hF rfl rfl rfl (by kernel_rfl) (by kernel_rfl) (by kernel_rfl) (by decide) (fun _ _ _ h => h) (wn_none rfl) (.inr hSS) (yl_indexAddr hF rfl rfl rfl (fun _ => run_idx' sl22 sz3 (hS.rdRow 1 rfl) hlt_hx55)) ?_
                clear hF; intro a hF
                refine ha_one 11 (by kernel_rfl) rfl (wn_none rfl) (wp_storeAt0 (enc := encI) (z' := ((min (((x55) + (1 : Int))) (1000000 : Int)))) hF hS rfl rfl rfl rfl 1 rfl sz3 (by simp [Value.cells, Value.oneCell']) encI_len hx55 (by simp [Value.cells]) rfl ?_)
                clear hF hS; intro a w hF hS
                refine ⟨.inl (by kernel_rfl), ?_⟩
                refine ha_done (by kernel_rfl) ?_ _
                refine then_n ?_
                refine c_seq ?_
                refine c_region ?_
                refine seq_yl hF (wn_none rfl) rfl rfl (yl_fieldAddr hF rfl rfl (fun w => by kernel_rfl : ∀ w, (Instr.fieldAt 27 (.pointer (some ⟨g49, 0, none⟩)) 2).run Try.prog w = .ok (.pointer (some ⟨g49, 2, none⟩)) w)) ?_
                clear hF; intro a hF
                refine seq_yl hF (wn_none rfl) rfl rfl (yl_load (fun _ h => h ▸ hS) hF rfl rfl 0 rfl ag3 rfl) ?_
                clear hF; intro a hF
                refine seq_yl hF (wn_none rfl) rfl rfl (yl_bin hF rfl rfl rfl rfl (fun _ => run_sub (by refine ⟨?_, ?_⟩ <;> omega))) ?_
                clear hF; intro a hF
                refine seq_yl hF (wn_none rfl) rfl rfl (yl_fieldAddr hF rfl rfl (fun w => by kernel_rfl : ∀ w, (Instr.fieldAt 27 (.pointer (some ⟨g49, 0, none⟩)) 2).run Try.prog w = .ok (.pointer (some ⟨g49, 2, none⟩)) w)) ?_
                clear hF; intro a hF
                refine seq_wp (wn_none rfl) (wp_store (cs' := #[_, _, _]) hF hS rfl rfl rfl rfl 0 rfl sz3 (by simp [Value.cells, Value.oneCell']) (by simp [Value.cells]) rfl ?_)
                clear hF hS; intro a w hF hS
                refine wpList_nil ?_
                refine then_n ?_
                refine c_seq ?_
                refine c_seq ?_
                refine c_region ?_
                refine seq_yl hF (wn_none rfl) rfl rfl (yl_fieldAddr hF rfl rfl (fun w => by kernel_rfl : ∀ w, (Instr.fieldAt 27 (.pointer (some ⟨g49, 0, none⟩)) 2).run Try.prog w = .ok (.pointer (some ⟨g49, 2, none⟩)) w)) ?_
                clear hF; intro a hF
                refine seq_yl hF (wn_none rfl) rfl rfl (yl_load (fun _ h => h ▸ hS) hF rfl rfl 0 rfl ag3 rfl) ?_
                clear hF; intro a hF
                refine seq_yl hF (wn_none rfl) rfl rfl (yl_bin hF rfl rfl rfl rfl (fun _ => run_gtr)) ?_
                clear hF; intro a hF
                refine wpList_nil ?_
                refine then_n ?_
                refine c_cond hF rfl (fun hc57 => ?_) (fun hc57 => ?_)
                · first | (replace hc57 := of_decide_eq_true hc57) | (replace hc57 := of_decide_eq_false (bnot_t hc57)) | (subst hc57) | (replace hc57 := bnot_t hc57; subst hc57) | (replace hc57 := bnot_t hc57) | skip
                  refine wp_exit ?_
                  refine then_x ?_
                  refine inb_x ?_
                  refine then_n ?_
                  refine c_region ?_
                  refine seq_yl hF (wn_none rfl) rfl rfl (yl_bin hF rfl rfl rfl rfl (fun _ => run_inc (by omega))) ?_
                  clear hF; intro a hF
                  refine seq_yl hF (wn_none rfl) rfl rfl (yl_move hF rfl rfl) ?_
                  clear hF; intro a hF
                  refine wpList_nil ?_
                  refine then_n ?_
                  exact ⟨_, (by omega), k + 1, _, _, rfl, ⟨by omega, run_no hinv.2.1 hx55 (by omega), by rw [List.length_set]; exact hEl⟩, hF.to [1, 6, 8, 37, 38] rfl, (hS.sub [0, 1, 2] (by decide) (by first | rfl | simp) (by simp))⟩
                · first | (replace hc57 := of_decide_eq_false hc57) | (replace hc57 := of_decide_eq_true (bnot_f hc57)) | (subst hc57) | (replace hc57 := bnot_f hc57; subst hc57) | (replace hc57 := bnot_f hc57) | skip
                  refine wp_skip ?_
                  refine then_n ?_
                  refine c_seq ?_
                  refine c_seq ?_
                  refine c_region ?_
                  refine seq_yl hF (wn_none rfl) rfl rfl (yl_fieldAddr hF rfl rfl (fun w => by kernel_rfl : ∀ w, (Instr.fieldAt 27 (.pointer (some ⟨g49, 0, none⟩)) 0).run Try.prog w = .ok (.pointer (some ⟨g49, 0, none⟩)) w)) ?_
                  clear hF; intro a hF
                  refine seq_yl hF (wn_none rfl) rfl rfl (yl_load (fun _ h => h ▸ hS) hF rfl rfl 0 rfl ag22 rfl) ?_
                  clear hF; intro a hF
                  refine seq_yl hF (wn_none rfl) rfl rfl (yl_len hF rfl rfl (fun _ => run_lenRd sl22 (hS.rdRow 1 rfl))) ?_
                  clear hF; intro a hF
                  refine seq_yl hF (wn_none rfl) rfl rfl (yl_move hF rfl rfl) ?_
                  clear hF; intro a hF
                  refine wpList_nil ?_
                  refine then_n ?_
                  refine wp_block ?_
                  refine c_loop (fun m a w => ∃ (j : Nat) (F : List Int), m = (E.set d.toNat ((min (((x55) + (1 : Int))) (1000000 : Int)))).length - j ∧ (j ≤ (E.set d.toNat ((min (((x55) + (1 : Int))) (1000000 : Int)))).length ∧ F = half ((E.set d.toNat ((min (((x55) + (1 : Int))) (1000000 : Int)))).take j) ++ (E.set d.toNat ((min (((x55) + (1 : Int))) (1000000 : Int)))).drop j ∧ ∀ e ∈ F, 0 ≤ e ∧ e ≤ 1000000) ∧ Fr 77 a [(1, .int .i64 (d)), (6, .pointer (some ⟨g47, 0, none⟩)), (8, .pointer (some ⟨g49, 0, none⟩)), (37, .int .i64 (n)), (38, .int .i64 ((k : Nat) : Int)), (60, .int .i64 ((((E.set d.toNat ((min (((x55) + (1 : Int))) (1000000 : Int))))).length : Nat) : Int)), (61, .int .i64 ((j : Nat) : Int))] ∧ Sat w0 w (.box g49 27 #[.slice (some ad56) L.length cv48, .int .i64 (p), .int .i64 (((q') - (1 : Int)))] :: .row 3 1 (.slice (some ad56) L.length cv48) (F).length (cells encI (F)) :: .box g47 27 #[.slice none 0 0, .int .i64 (0 : Int), .int .i64 (0 : Int)] :: [])) ((E.set d.toNat ((min (((x55) + (1 : Int))) (1000000 : Int)))).length - 0) ?_ ?_
                  · exact ⟨0, (E.set d.toNat ((min (((x55) + (1 : Int))) (1000000 : Int)))), rfl, ⟨Nat.zero_le _, by simp [half], set_in hmem _ (by omega)⟩, hF.to [1, 6, 8, 37, 38, 60, 61] rfl, (hS.sub [0, 1, 2] (by decide) (by first | rfl | simp) (by simp))⟩
                  · clear hF hS; try clear hSS
                    clear a w; rintro m a w ⟨j, F, rfl, hinv, hF, hS⟩
                    have hinv2 := hinv
                    clear hinv
                    rename (_ : Int) ≤ n ∧ crun _ _ _ _ = _ ∧ _ => hinv
                    have hmem2 := hinv2.2.2
                    have hFl := half_len hinv2.2.1 hinv2.1
                    have hFs : F.length ≤ 4 := by rw [hFl, List.length_set]; omega
                    refine c_seq ?_
                    refine c_region ?_
                    refine seq_yl hF (wn_none rfl) rfl rfl (yl_bin hF rfl rfl rfl rfl (fun _ => run_lss)) ?_
                    clear hF; intro a hF
                    refine wpList_nil ?_
                    refine then_n ?_
                    refine c_seq ?_
                    refine c_cond hF rfl (fun hc58 => ?_) (fun hc58 => ?_)
                    · first | (replace hc58 := of_decide_eq_true hc58) | (replace hc58 := of_decide_eq_false (bnot_t hc58)) | (subst hc58) | (replace hc58 := bnot_t hc58; subst hc58) | (replace hc58 := bnot_t hc58) | skip
                      refine wp_skip ?_
                      refine then_n ?_
                      refine c_seq ?_
                      refine wp_block ?_
                      refine c_seq ?_
                      refine c_region ?_
                      refine seq_yl hF (wn_none rfl) rfl rfl (yl_move hF rfl rfl) ?_
                      clear hF; intro a hF
                      refine seq_yl hF (wn_none rfl) rfl rfl (yl_assign hF rfl rfl) ?_
                      clear hF; intro a hF
                      refine wpList_nil ?_
                      refine then_n ?_
                      refine c_region ?_
                      refine seq_yl hF (wn_none rfl) rfl rfl (yl_fieldAddr hF rfl rfl (fun w => by kernel_rfl : ∀ w, (Instr.fieldAt 27 (.pointer (some ⟨g49, 0, none⟩)) 0).run Try.prog w = .ok (.pointer (some ⟨g49, 0, none⟩)) w)) ?_
                      clear hF; intro a hF
                      refine seq_yl hF (wn_none rfl) rfl rfl (yl_load (fun _ h => h ▸ hS) hF rfl rfl 0 rfl ag22 rfl) ?_
                      clear hF; intro a hF
                      refine seq_yl hF (wn_none rfl) rfl rfl (yl_move hF rfl rfl) ?_
                      clear hF; intro a hF
                      have hlt_hx59 : j < (F).length := by (have := half_len hinv2.2.1 hinv2.1; omega)
                      obtain ⟨x59, hx59⟩ := get_some hlt_hx59
                      have hb_x59 := hmem2 x59 (List.mem_of_getElem? hx59)
                      refine seq_yl hF (wn_none rfl) rfl rfl (yl_indexAddr hF rfl rfl rfl (fun _ => run_idx' sl22 sz3 (hS.rdRow 1 rfl) hlt_hx59)) ?_
                      clear hF; intro a hF
                      refine seq_yl hF (wn_none rfl) rfl rfl (yl_loadAt hF rfl rfl ag3 (fun _ h => rd_cell0 (by subst h; exact hS.rdRow 1 rfl) encI_len hx59 rfl rfl)) ?_
                      clear hF; intro a hF
                      refine seq_yl hF (wn_none rfl) rfl rfl (yl_bin hF rfl rfl rfl rfl (fun _ => run_quoN (by omega) (by omega) (by omega))) ?_
                      clear hF; intro a hF
                      refine seq_yl hF (wn_none rfl) rfl rfl (yl_indexAddr hF rfl rfl rfl (fun _ => run_idx' sl22 sz3 (hS.rdRow 1 rfl) hlt_hx59)) ?_
                      clear hF; intro a hF
                      refine seq_wp (wn_none rfl) (wp_storeAt0 (enc := encI) (z' := (((x59) / (2 : Int)))) hF hS rfl rfl rfl rfl 1 rfl sz3 (by simp [Value.cells, Value.oneCell']) encI_len hx59 (by simp [Value.cells]) rfl ?_)
                      clear hF hS; intro a w hF hS
                      refine wpList_nil ?_
                      refine inb_n ?_
                      refine then_n ?_
                      refine c_region ?_
                      refine seq_yl hF (wn_none rfl) rfl rfl (yl_bin hF rfl rfl rfl rfl (fun _ => run_inc (by omega))) ?_
                      clear hF; intro a hF
                      refine seq_yl hF (wn_none rfl) rfl rfl (yl_move hF rfl rfl) ?_
                      clear hF; intro a hF
                      refine wpList_nil ?_
                      refine then_n ?_
                      exact ⟨_, (by omega), j + 1, _, rfl, ⟨by omega, half_step hinv2.2.1 hx59 (by omega), set_in hinv2.2.2 _ (by omega)⟩, hF.to [1, 6, 8, 37, 38, 60, 61] rfl, (hS.sub [0, 1, 2] (by decide) (by first | rfl | simp) (by simp))⟩
                    · first | (replace hc58 := of_decide_eq_false hc58) | (replace hc58 := of_decide_eq_true (bnot_f hc58)) | (subst hc58) | (replace hc58 := bnot_f hc58; subst hc58) | (replace hc58 := bnot_f hc58) | skip
                      refine wp_exit ?_
                      refine then_x ?_
                      refine then_x ?_
                      refine inb_x ?_
                      refine then_n ?_
                      refine c_region ?_
                      refine seq_yl hF (wn_none rfl) rfl rfl (yl_fieldAddr hF rfl rfl (fun w => by kernel_rfl : ∀ w, (Instr.fieldAt 27 (.pointer (some ⟨g49, 0, none⟩)) 1).run Try.prog w = .ok (.pointer (some ⟨g49, 1, none⟩)) w)) ?_
                      clear hF; intro a hF
                      refine seq_yl hF (wn_none rfl) rfl rfl (yl_load (fun _ h => h ▸ hS) hF rfl rfl 0 rfl ag3 rfl) ?_
                      clear hF; intro a hF
                      refine seq_yl hF (wn_none rfl) rfl rfl (yl_fieldAddr hF rfl rfl (fun w => by kernel_rfl : ∀ w, (Instr.fieldAt 27 (.pointer (some ⟨g49, 0, none⟩)) 2).run Try.prog w = .ok (.pointer (some ⟨g49, 2, none⟩)) w)) ?_
                      clear hF; intro a hF
                      refine seq_wp (wn_none rfl) (wp_store (cs' := #[_, _, _]) hF hS rfl rfl rfl rfl 0 rfl sz3 (by simp [Value.cells, Value.oneCell']) (by simp [Value.cells]) rfl ?_)
                      clear hF hS; intro a w hF hS
                      refine wpList_nil ?_
                      refine inb_n ?_
                      refine then_n ?_
                      refine c_region ?_
                      refine seq_yl hF (wn_none rfl) rfl rfl (yl_bin hF rfl rfl rfl rfl (fun _ => run_inc (by omega))) ?_
                      clear hF; intro a hF
                      refine seq_yl hF (wn_none rfl) rfl rfl (yl_move hF rfl rfl) ?_
                      clear hF; intro a hF
                      refine wpList_nil ?_
                      refine then_n ?_
                      exact ⟨_, (by omega), k + 1, _, _, rfl, ⟨by omega, run_half hinv.2.1 hx55 (by omega) (half_done hinv2.2.1 (by omega)), by have := half_len hinv2.2.1 hinv2.1; rw [List.length_set] at this; omega⟩, hF.to [1, 6, 8, 37, 38] rfl, (hS.sub [0, 1, 2] (by decide) (by first | rfl | simp) (by simp))⟩
              · first | (replace hc54 := of_decide_eq_false hc54) | (replace hc54 := of_decide_eq_true (bnot_f hc54)) | (subst hc54) | (replace hc54 := bnot_f hc54; subst hc54) | (replace hc54 := bnot_f hc54) | skip
                refine wp_exit ?_
                refine then_x ?_
                refine then_x ?_
                refine inb_x ?_
                refine then_n ?_
                refine c_seq ?_
                refine c_region ?_
                refine seq_yl hF (wn_none rfl) rfl rfl (yl_loadK (rs := [_, _, _]) (fun _ h => h ▸ hS) hF rfl rfl 0 rfl ag27 sz27 rfl rfl) ?_
                clear hF; intro a hF
                refine seq_wp (wn_none rfl) (wp_store (cs' := #[_, _, _]) hF hS rfl rfl rfl rfl 2 rfl sz27 (by simp [Value.cells, Value.oneCell']) (by simp [Value.cells]) rfl ?_)
                clear hF hS; intro a w hF hS
                refine seq_yl hF (wn_none rfl) rfl rfl (yl_assign hF rfl rfl) ?_
                clear hF; intro a hF
                refine wpList_nil ?_
                refine then_n ?_
                refine wp_ret ?_
                refine ret_ct hF rfl (resC hS rfl 2 rfl ag27 sz27) rfl ?_
                obtain ⟨hs1, hs2⟩ := st_0 (n := n) hchk (by omega) (by omega) hinv.2.1
                rw [hs1, hs2]
                exact ⟨_, rfl, _, rfl, (hS.sub [1] (by decide) (by first | rfl | simp) (by simp))⟩
  · skip
    refine ha_op 8 rfl (wn_none rfl) (wp_alloc (cs := #[_, _, _]) hF hS rfl rfl rfl zr27 rfl ?_)
    clear hF hS; intro a w g60 hF hS
    replace hSS := hS.sub [2] (by decide) rfl (by simp)
    refine ⟨.inr hSS, ?_⟩
    refine ha_one 2 (by kernel_rfl) rfl (wn_none rfl) (wp_call (vs := [_]) hF rfl rfl rfl rfl cf25 (clone_any _ _ _ (hS.rdRo 3 rfl) (by first | omega | (simp; omega))) ?_)
    clear hF; rintro _ w ⟨v61, rfl, hS1⟩ a hF
    replace hS := hS.callB hS1 rfl; clear hS1
    obtain ⟨Av61, cv61, rfl⟩ := hS.form 0 rfl
    replace hSS := hS.sub [3] (by decide) rfl (by simp)
    refine ⟨.inr hSS, ?_⟩
    refine ha_yl 7 hF rfl rfl rfl (by kernel_rfl) (by kernel_rfl) (by kernel_rfl) (by decide) (fun _ _ _ h => h) (wn_none rfl) (.inr hSS) (yl_build (parts := [(0, .tmp 12), (1, .tmp 14), (2, .tmp 16)]) (vs := [(0, _), (1, _), (2, _)]) (cs := [_, _, _]) hF bd27 rfl rfl rfl rfl) ?_
    clear hF; intro a hF
    refine ha_one 9 (by kernel_rfl) rfl (wn_none rfl) (wp_store (cs' := #[_, _, _]) hF hS rfl rfl rfl rfl 1 rfl sz27 (by simp [Value.cells, Value.oneCell']) (by simp [Value.cells]) rfl ?_)
    clear hF hS; intro a w hF hS
    replace hSS := hS.sub [3] (by decide) rfl (by simp)
    refine ⟨.inr hSS, ?_⟩
    refine ha_done (by kernel_rfl) ?_ _
    refine then_n ?_
    refine c_seq ?_
    refine c_seq ?_
    refine c_region ?_
    refine seq_yl hF (wn_none rfl) rfl rfl (yl_loadK (rs := [_, _, _]) (fun _ h => h ▸ hS) hF rfl rfl 3 rfl ag27 sz27 rfl rfl) ?_
    clear hF; intro a hF
    refine seq_wp (wn_none rfl) (wp_call (vs := [_]) hF rfl rfl rfl rfl cf14 (check_any _ L (p) (q) _ (hS.rdRo 4 rfl) (by first | omega | (simp; done) | (simp; omega) | (rw [stF_len]; first | omega | (simp; done) | (simp; omega)))) ?_)
    clear hF; rintro _ w ⟨rfl, hS1⟩ a hF
    replace hS := hS.callB hS1 rfl; clear hS1
    refine seq_yl hF (wn_none rfl) rfl rfl (yl_un hF rfl rfl (fun _ => run_not)) ?_
    clear hF; intro a hF
    refine wpList_nil ?_
    refine then_n ?_
    refine c_cond hF rfl (fun hc62 => ?_) (fun hc62 => ?_)
    · first | (replace hc62 := of_decide_eq_true hc62) | (replace hc62 := of_decide_eq_false (bnot_t hc62)) | (subst hc62) | (replace hc62 := bnot_t hc62; subst hc62) | (replace hc62 := bnot_t hc62) | skip
      refine c_seq ?_
      refine c_region ?_
      refine seq_yl hF (wn_none rfl) rfl rfl (yl_loadK (rs := [_, _, _]) (fun _ h => h ▸ hS) hF rfl rfl 1 rfl ag27 sz27 rfl rfl) ?_
      clear hF; intro a hF
      refine seq_wp (wn_none rfl) (wp_store (cs' := #[_, _, _]) hF hS rfl rfl rfl rfl 2 rfl sz27 (by simp [Value.cells, Value.oneCell']) (by simp [Value.cells]) rfl ?_)
      clear hF hS; intro a w hF hS
      refine seq_yl hF (wn_none rfl) rfl rfl (yl_assign hF rfl rfl) ?_
      clear hF; intro a hF
      refine wpList_nil ?_
      refine then_n ?_
      refine wp_ret ?_
      refine then_r ?_
      refine ret_ct hF rfl (resC hS rfl 2 rfl ag27 sz27) rfl ?_
      obtain ⟨hs1, hs2⟩ := st_1 (d := d) (n := n) (by assumption : chkF L p q = false)
      rw [hs1, hs2]
      exact ⟨_, rfl, _, rfl, (hS.sub [0] (by decide) (by first | rfl | simp) (by simp))⟩
    · first | (replace hc62 := of_decide_eq_false hc62) | (replace hc62 := of_decide_eq_true (bnot_f hc62)) | (subst hc62) | (replace hc62 := bnot_f hc62; subst hc62) | (replace hc62 := bnot_f hc62) | skip
      refine wp_skip ?_
      refine then_n ?_
      refine c_seq ?_
      refine c_seq ?_
      refine c_region ?_
      refine seq_yl hF (wn_none rfl) rfl rfl (yl_move hF rfl rfl) ?_
      clear hF; intro a hF
      refine seq_yl hF (wn_none rfl) rfl rfl (yl_bin hF rfl rfl rfl rfl (fun _ => run_lss)) ?_
      clear hF; intro a hF
      refine seq_yl hF (wn_none rfl) rfl rfl (yl_move hF rfl rfl) ?_
      clear hF; intro a hF
      refine fr_split hF (fun hc63 hF => ?_) (fun hc63 hF => ?_)
      · first | (replace hc63 := of_decide_eq_true hc63) | (replace hc63 := of_decide_eq_false (bnot_t hc63)) | (subst hc63) | (replace hc63 := bnot_t hc63; subst hc63) | (replace hc63 := bnot_t hc63) | skip
        refine seq_skip hF (wn_f hF rfl rfl rfl rfl) rfl rfl ?_
        clear hF; intro a hF
        refine seq_skip hF (wn_f hF rfl rfl rfl rfl) rfl rfl ?_
        clear hF; intro a hF
        refine seq_skip hF (wn_f hF rfl rfl rfl rfl) rfl rfl ?_
        clear hF; intro a hF
        refine seq_skip hF (wn_f hF rfl rfl rfl rfl) rfl rfl ?_
        clear hF; intro a hF
        refine seq_skip hF (wn_f hF rfl rfl rfl rfl) rfl rfl ?_
        clear hF; intro a hF
        refine seq_yl hF (wn_none rfl) rfl rfl (yl_pick (u := _) (v := undef) hF rfl rfl (fun _ => rfl) (fun h => by cases h)) ?_
        clear hF; intro a hF
        refine seq_yl hF (wn_none rfl) rfl rfl (yl_move hF rfl rfl) ?_
        clear hF; intro a hF
        refine seq_skip hF (wn_f hF rfl rfl rfl rfl) rfl rfl ?_
        clear hF; intro a hF
        refine seq_skip hF (wn_f hF rfl rfl rfl rfl) rfl rfl ?_
        clear hF; intro a hF
        refine seq_skip hF (wn_f hF rfl rfl rfl rfl) rfl rfl ?_
        clear hF; intro a hF
        refine seq_yl hF (wn_none rfl) rfl rfl (yl_pick (u := _) (v := undef) hF rfl rfl (fun _ => rfl) (fun h => by cases h)) ?_
        clear hF; intro a hF
        refine wpList_nil ?_
        refine then_n ?_
        refine c_cond_t hF rfl ?_
        refine c_seq ?_
        refine c_region ?_
        refine seq_yl hF (wn_none rfl) rfl rfl (yl_loadK (rs := [_, _, _]) (fun _ h => h ▸ hS) hF rfl rfl 1 rfl ag27 sz27 rfl rfl) ?_
        clear hF; intro a hF
        refine seq_wp (wn_none rfl) (wp_store (cs' := #[_, _, _]) hF hS rfl rfl rfl rfl 2 rfl sz27 (by simp [Value.cells, Value.oneCell']) (by simp [Value.cells]) rfl ?_)
        clear hF hS; intro a w hF hS
        refine seq_yl hF (wn_none rfl) rfl rfl (yl_assign hF rfl rfl) ?_
        clear hF; intro a hF
        refine wpList_nil ?_
        refine then_n ?_
        refine wp_ret ?_
        refine then_r ?_
        refine ret_ct hF rfl (resC hS rfl 2 rfl ag27 sz27) rfl ?_
        obtain ⟨hs1, hs2⟩ := st_2 (d := d) (n := n) (by assumption : chkF L p q = true) (by omega)
        rw [hs1, hs2]
        exact ⟨_, rfl, _, rfl, (hS.sub [0] (by decide) (by first | rfl | simp) (by simp))⟩
      · first | (replace hc63 := of_decide_eq_false hc63) | (replace hc63 := of_decide_eq_true (bnot_f hc63)) | (subst hc63) | (replace hc63 := bnot_f hc63; subst hc63) | (replace hc63 := bnot_f hc63) | skip
        refine seq_yl hF (wn_t hF rfl rfl rfl rfl) rfl rfl (yl_move hF rfl rfl) ?_
        clear hF; intro a hF
        refine seq_yl hF (wn_t hF rfl rfl rfl rfl) rfl rfl (yl_fieldAddr hF rfl rfl (fun w => by kernel_rfl : ∀ w, (Instr.fieldAt 27 (.pointer (some ⟨g46, 0, none⟩)) 0).run Try.prog w = .ok (.pointer (some ⟨g46, 0, none⟩)) w)) ?_
        clear hF; intro a hF
        refine seq_yl hF (wn_t hF rfl rfl rfl rfl) rfl rfl (yl_load (fun _ h => h ▸ hS) hF rfl rfl 3 rfl ag22 rfl) ?_
        clear hF; intro a hF
        refine seq_yl hF (wn_t hF rfl rfl rfl rfl) rfl rfl (yl_len hF rfl rfl (fun _ => run_lenRd sl22 (hS.rdRo 4 rfl))) ?_
        clear hF; intro a hF
        refine seq_yl hF (wn_t hF rfl rfl rfl rfl) rfl rfl (yl_bin hF rfl rfl rfl rfl (fun _ => run_geq)) ?_
        clear hF; intro a hF
        refine seq_yl hF (wn_none rfl) rfl rfl (yl_pick (u := _) (v := undef) hF rfl rfl (fun h => by cases h) (fun _ => rfl)) ?_
        clear hF; intro a hF
        refine seq_yl hF (wn_none rfl) rfl rfl (yl_move hF rfl rfl) ?_
        clear hF; intro a hF
        refine fr_split hF (fun hc64 hF => ?_) (fun hc64 hF => ?_)
        · first | (replace hc64 := of_decide_eq_true hc64) | (replace hc64 := of_decide_eq_false (bnot_t hc64)) | (subst hc64) | (replace hc64 := bnot_t hc64; subst hc64) | (replace hc64 := bnot_t hc64) | skip
          refine seq_skip hF (wn_f hF rfl rfl rfl rfl) rfl rfl ?_
          clear hF; intro a hF
          refine seq_skip hF (wn_f hF rfl rfl rfl rfl) rfl rfl ?_
          clear hF; intro a hF
          refine seq_skip hF (wn_f hF rfl rfl rfl rfl) rfl rfl ?_
          clear hF; intro a hF
          refine seq_yl hF (wn_none rfl) rfl rfl (yl_pick (u := _) (v := undef) hF rfl rfl (fun _ => rfl) (fun h => by cases h)) ?_
          clear hF; intro a hF
          refine wpList_nil ?_
          refine then_n ?_
          refine c_cond_t hF rfl ?_
          refine c_seq ?_
          refine c_region ?_
          refine seq_yl hF (wn_none rfl) rfl rfl (yl_loadK (rs := [_, _, _]) (fun _ h => h ▸ hS) hF rfl rfl 1 rfl ag27 sz27 rfl rfl) ?_
          clear hF; intro a hF
          refine seq_wp (wn_none rfl) (wp_store (cs' := #[_, _, _]) hF hS rfl rfl rfl rfl 2 rfl sz27 (by simp [Value.cells, Value.oneCell']) (by simp [Value.cells]) rfl ?_)
          clear hF hS; intro a w hF hS
          refine seq_yl hF (wn_none rfl) rfl rfl (yl_assign hF rfl rfl) ?_
          clear hF; intro a hF
          refine wpList_nil ?_
          refine then_n ?_
          refine wp_ret ?_
          refine then_r ?_
          refine ret_ct hF rfl (resC hS rfl 2 rfl ag27 sz27) rfl ?_
          obtain ⟨hs1, hs2⟩ := st_2 (d := d) (n := n) (by assumption : chkF L p q = true) (by omega)
          rw [hs1, hs2]
          exact ⟨_, rfl, _, rfl, (hS.sub [0] (by decide) (by first | rfl | simp) (by simp))⟩
        · first | (replace hc64 := of_decide_eq_false hc64) | (replace hc64 := of_decide_eq_true (bnot_f hc64)) | (subst hc64) | (replace hc64 := bnot_f hc64; subst hc64) | (replace hc64 := bnot_f hc64) | skip
          refine seq_yl hF (wn_t hF rfl rfl rfl rfl) rfl rfl (yl_move hF rfl rfl) ?_
          clear hF; intro a hF
          refine seq_wp (wn_t hF rfl rfl rfl rfl) (wp_call (vs := [_]) hF rfl rfl rfl rfl cf26 (pages_any (n) _) ?_)
          clear hF; rintro _ w ⟨rfl, hS1⟩ a hF
          replace hS := hS.callB hS1 rfl; clear hS1
          refine seq_yl hF (wn_t hF rfl rfl rfl rfl) rfl rfl (yl_un hF rfl rfl (fun _ => run_not)) ?_
          clear hF; intro a hF
          refine seq_yl hF (wn_none rfl) rfl rfl (yl_pick (u := _) (v := undef) hF rfl rfl (fun h => by cases h) (fun _ => rfl)) ?_
          clear hF; intro a hF
          refine wpList_nil ?_
          refine then_n ?_
          refine c_cond hF rfl (fun hc65 => ?_) (fun hc65 => ?_)
          · first | (replace hc65 := of_decide_eq_true hc65) | (replace hc65 := of_decide_eq_false (bnot_t hc65)) | (subst hc65) | (replace hc65 := bnot_t hc65; subst hc65) | (replace hc65 := bnot_t hc65) | skip
            refine c_seq ?_
            refine c_region ?_
            refine seq_yl hF (wn_none rfl) rfl rfl (yl_loadK (rs := [_, _, _]) (fun _ h => h ▸ hS) hF rfl rfl 1 rfl ag27 sz27 rfl rfl) ?_
            clear hF; intro a hF
            refine seq_wp (wn_none rfl) (wp_store (cs' := #[_, _, _]) hF hS rfl rfl rfl rfl 2 rfl sz27 (by simp [Value.cells, Value.oneCell']) (by simp [Value.cells]) rfl ?_)
            clear hF hS; intro a w hF hS
            refine seq_yl hF (wn_none rfl) rfl rfl (yl_assign hF rfl rfl) ?_
            clear hF; intro a hF
            refine wpList_nil ?_
            refine then_n ?_
            refine wp_ret ?_
            refine then_r ?_
            refine ret_ct hF rfl (resC hS rfl 2 rfl ag27 sz27) rfl ?_
            obtain ⟨hs1, hs2⟩ := st_2 (d := d) (n := n) (by assumption : chkF L p q = true) (by omega)
            rw [hs1, hs2]
            exact ⟨_, rfl, _, rfl, (hS.sub [0] (by decide) (by first | rfl | simp) (by simp))⟩
          · first | (replace hc65 := of_decide_eq_false hc65) | (replace hc65 := of_decide_eq_true (bnot_f hc65)) | (subst hc65) | (replace hc65 := bnot_f hc65; subst hc65) | (replace hc65 := bnot_f hc65) | skip
            refine wp_skip ?_
            refine then_n ?_
            refine c_seq ?_
            refine c_seq ?_
            refine c_region ?_
            refine seq_yl hF (wn_none rfl) rfl rfl (yl_move hF rfl rfl) ?_
            clear hF; intro a hF
            refine seq_yl hF (wn_none rfl) rfl rfl (yl_move hF rfl rfl) ?_
            clear hF; intro a hF
            refine wpList_nil ?_
            refine then_n ?_
            refine wp_block ?_
            have hchk : chkF L p q = true := by assumption
            obtain ⟨hCI, hp1, hp2, hl1, hl2⟩ := CI_of hchk
            refine c_loop (fun m a w => ∃ (k : Nat) (E : List Int) (q' : Int), m = n.toNat - k ∧ ((k : Int) ≤ n ∧ crun d.toNat p k (L, q) = (E, q') ∧ E.length = L.length) ∧ Fr 77 a [(1, .int .i64 (d)), (6, .pointer (some ⟨g47, 0, none⟩)), (8, .pointer (some ⟨g60, 0, none⟩)), (37, .int .i64 (n)), (38, .int .i64 ((k : Nat) : Int))] ∧ Sat w0 w (.box g60 27 #[.slice Av61 L.length cv61, .int .i64 (p), .int .i64 (q')] :: .row 3 1 (.slice Av61 L.length cv61) (E).length (cells encI (E)) :: .box g47 27 #[.slice none 0 0, .int .i64 (0 : Int), .int .i64 (0 : Int)] :: [])) (n.toNat - 0) ?_ ?_
            · exact ⟨0, L, q, rfl, ⟨by omega, rfl, rfl⟩, hF.to [1, 6, 8, 37, 38] rfl, (hS.sub [1, 0, 2] (by decide) (by first | rfl | simp) (by simp))⟩
            · clear hF hS; try clear hSS
              clear a w; rintro m a w ⟨k, E, q', rfl, hinv, hF, hS⟩
              have hI := crun_inv (d := d.toNat) hp1 hCI k
              rw [hinv.2.1] at hI
              have hmem := hI.2.1
              have hq1 := hI.2.2.1
              have hq2 := hI.2.2.2
              simp only at hmem hq1 hq2
              have hEl := hinv.2.2
              refine c_seq ?_
              refine c_region ?_
              refine seq_yl hF (wn_none rfl) rfl rfl (yl_bin hF rfl rfl rfl rfl (fun _ => run_lss)) ?_
              clear hF; intro a hF
              refine wpList_nil ?_
              refine then_n ?_
              refine c_seq ?_
              refine c_cond hF rfl (fun hc66 => ?_) (fun hc66 => ?_)
              · first | (replace hc66 := of_decide_eq_true hc66) | (replace hc66 := of_decide_eq_false (bnot_t hc66)) | (subst hc66) | (replace hc66 := bnot_t hc66; subst hc66) | (replace hc66 := bnot_t hc66) | skip
                refine wp_skip ?_
                refine then_n ?_
                refine c_seq ?_
                refine wp_block ?_
                refine c_seq ?_
                refine ha_startS hS [0, 1] 11 (by kernel_rfl) ?_; clear hS; intro w hS
                have hSS := hS.sub [0, 1] (by decide) rfl (by simp)
                refine ha_yl 0 hF rfl rfl rfl (by kernel_rfl) (by kernel_rfl) (by kernel_rfl) (by decide) (fun _ _ _ h => h) (wn_none rfl) (.inr hSS) (yl_fieldAddr hF rfl rfl (fun w => by kernel_rfl : ∀ w, (Instr.fieldAt 27 (.pointer (some ⟨g60, 0, none⟩)) 0).run Try.prog w = .ok (.pointer (some ⟨g60, 0, none⟩)) w)) ?_
                clear hF; intro a hF
                refine ha_yl 2 hF rfl rfl rfl (by kernel_rfl) (by kernel_rfl) (by kernel_rfl) (by decide) (fun _ _ _ h => h) (wn_none rfl) (.inr hSS) (yl_move hF rfl rfl) ?_
                clear hF; intro a hF
                replace hF := fr_seti (b' := ((d.toNat : Nat) : Int)) hF (by omega)
                refine ha_yl 3 hF rfl rfl rfl (by kernel_rfl) (by kernel_rfl) (by kernel_rfl) (by decide) (fun _ _ _ h => h) (wn_none rfl) (.inr hSS) (yl_fieldAddr hF rfl rfl (fun w => by kernel_rfl : ∀ w, (Instr.fieldAt 27 (.pointer (some ⟨g60, 0, none⟩)) 0).run Try.prog w = .ok (.pointer (some ⟨g60, 0, none⟩)) w)) ?_
                clear hF; intro a hF
                refine ha_yl 5 hF rfl rfl rfl (by kernel_rfl) (by kernel_rfl) (by kernel_rfl) (by decide) (fun _ _ _ h => h) (wn_none rfl) (.inr hSS) (yl_move hF rfl rfl) ?_
                clear hF; intro a hF
                replace hF := fr_seti (b' := ((d.toNat : Nat) : Int)) hF (by omega)
                refine ha_ld 1 hF rfl rfl rfl (by kernel_rfl) (by kernel_rfl) (by kernel_rfl) (by decide) (by kernel_rfl) (by kernel_rfl) (fun _ _ _ h => h) (wn_none rfl) hSS (yl_load (fun _ h => h) hF rfl rfl 0 rfl ag22 rfl) ?_
                clear hF; intro a hF
                refine ha_ld 4 hF rfl rfl rfl (by kernel_rfl) (by kernel_rfl) (by kernel_rfl) (by decide) (by kernel_rfl) (by kernel_rfl) (fun _ _ _ h => h) (wn_none rfl) hSS (yl_load (fun _ h => h) hF rfl rfl 0 rfl ag22 rfl) ?_
                clear hF; intro a hF
                have hlt_hx67 : d.toNat < (E).length := by first | omega | (simp; done) | (simp; omega)
                obtain ⟨ad68, rfl⟩ := rd_some (hS.rdRow 1 rfl) hlt_hx67
                obtain ⟨x67, hx67⟩ := get_some hlt_hx67
                have hb_x67 := hmem x67 (List.mem_of_getElem? hx67)
                refine ha_yl 6 hF rfl rfl rfl (by kernel_rfl) (by kernel_rfl) (by kernel_rfl) (by decide) (fun _ _ _ h => h) (wn_none rfl) (.inr hSS) (yl_indexAddr hF rfl rfl rfl (fun _ => run_idx' sl22 sz3 (hS.rdRow 1 rfl) hlt_hx67)) ?_
                clear hF; intro a hF
                refine ha_ld 7 hF rfl rfl rfl (by kernel_rfl) (by kernel_rfl) (by kernel_rfl) (by decide) (by kernel_rfl) (by kernel_rfl) (fun _ _ _ h => h) (wn_none rfl) hSS (yl_loadAt hF rfl rfl ag3 (fun _ h => rd_cell0 (Sat.rdRow h 1 rfl) encI_len hx67 rfl rfl)) ?_
                clear hF; intro a hF
                refine ha_yl 8 hF rfl rfl rfl (by kernel_rfl) (by kernel_rfl) (by kernel_rfl) (by decide) (fun _ _ _ h => h) (wn_none rfl) (.inr hSS) (yl_bin hF rfl rfl rfl rfl (fun _ => run_add (by refine ⟨?_, ?_⟩ <;> omega))) ?_
                clear hF; intro a hF
                refine ha_yl 9 hF rfl rfl rfl (by kernel_rfl) (by kernel_rfl) (by kernel_rfl) (by decide) (fun _ _ _ h => h) (wn_none rfl) (.inr hSS) (yl_min2 hF rfl rfl rfl) ?_
                clear hF; intro a hF
                refine ha_yl 10 hF rfl rfl rfl (by kernel_rfl) (by kernel_rfl) (by kernel_rfl) (by decide) (fun _ _ _ h => h) (wn_none rfl) (.inr hSS) (yl_indexAddr hF rfl rfl rfl (fun _ => run_idx' sl22 sz3 (hS.rdRow 1 rfl) hlt_hx67)) ?_
                clear hF; intro a hF
                refine ha_one 11 (by kernel_rfl) rfl (wn_none rfl) (wp_storeAt0 (enc := encI) (z' := ((min (((x67) + (1 : Int))) (1000000 : Int)))) hF hS rfl rfl rfl rfl 1 rfl sz3 (by simp [Value.cells, Value.oneCell']) encI_len hx67 (by simp [Value.cells]) rfl ?_)
                clear hF hS; intro a w hF hS
                refine ⟨.inl (by kernel_rfl), ?_⟩
                refine ha_done (by kernel_rfl) ?_ _
                refine then_n ?_
                refine c_seq ?_
                refine c_region ?_
                refine seq_yl hF (wn_none rfl) rfl rfl (yl_fieldAddr hF rfl rfl (fun w => by kernel_rfl : ∀ w, (Instr.fieldAt 27 (.pointer (some ⟨g60, 0, none⟩)) 2).run Try.prog w = .ok (.pointer (some ⟨g60, 2, none⟩)) w)) ?_
                clear hF; intro a hF
                refine seq_yl hF (wn_none rfl) rfl rfl (yl_load (fun _ h => h ▸ hS) hF rfl rfl 0 rfl ag3 rfl) ?_
                clear hF; intro a hF
                refine seq_yl hF (wn_none rfl) rfl rfl (yl_bin hF rfl rfl rfl rfl (fun _ => run_sub (by refine ⟨?_, ?_⟩ <;> omega))) ?_
                clear hF; intro a hF
                refine seq_yl hF (wn_none rfl) rfl rfl (yl_fieldAddr hF rfl rfl (fun w => by kernel_rfl : ∀ w, (Instr.fieldAt 27 (.pointer (some ⟨g60, 0, none⟩)) 2).run Try.prog w = .ok (.pointer (some ⟨g60, 2, none⟩)) w)) ?_
                clear hF; intro a hF
                refine seq_wp (wn_none rfl) (wp_store (cs' := #[_, _, _]) hF hS rfl rfl rfl rfl 0 rfl sz3 (by simp [Value.cells, Value.oneCell']) (by simp [Value.cells]) rfl ?_)
                clear hF hS; intro a w hF hS
                refine wpList_nil ?_
                refine then_n ?_
                refine c_seq ?_
                refine c_seq ?_
                refine c_region ?_
                refine seq_yl hF (wn_none rfl) rfl rfl (yl_fieldAddr hF rfl rfl (fun w => by kernel_rfl : ∀ w, (Instr.fieldAt 27 (.pointer (some ⟨g60, 0, none⟩)) 2).run Try.prog w = .ok (.pointer (some ⟨g60, 2, none⟩)) w)) ?_
                clear hF; intro a hF
                refine seq_yl hF (wn_none rfl) rfl rfl (yl_load (fun _ h => h ▸ hS) hF rfl rfl 0 rfl ag3 rfl) ?_
                clear hF; intro a hF
                refine seq_yl hF (wn_none rfl) rfl rfl (yl_bin hF rfl rfl rfl rfl (fun _ => run_gtr)) ?_
                clear hF; intro a hF
                refine wpList_nil ?_
                refine then_n ?_
                refine c_cond hF rfl (fun hc69 => ?_) (fun hc69 => ?_)
                · first | (replace hc69 := of_decide_eq_true hc69) | (replace hc69 := of_decide_eq_false (bnot_t hc69)) | (subst hc69) | (replace hc69 := bnot_t hc69; subst hc69) | (replace hc69 := bnot_t hc69) | skip
                  refine wp_exit ?_
                  refine then_x ?_
                  refine inb_x ?_
                  refine then_n ?_
                  refine c_region ?_
                  refine seq_yl hF (wn_none rfl) rfl rfl (yl_bin hF rfl rfl rfl rfl (fun _ => run_inc (by omega))) ?_
                  clear hF; intro a hF
                  refine seq_yl hF (wn_none rfl) rfl rfl (yl_move hF rfl rfl) ?_
                  clear hF; intro a hF
                  refine wpList_nil ?_
                  refine then_n ?_
                  exact ⟨_, (by omega), k + 1, _, _, rfl, ⟨by omega, run_no hinv.2.1 hx67 (by omega), by rw [List.length_set]; exact hEl⟩, hF.to [1, 6, 8, 37, 38] rfl, (hS.sub [0, 1, 2] (by decide) (by first | rfl | simp) (by simp))⟩
                · first | (replace hc69 := of_decide_eq_false hc69) | (replace hc69 := of_decide_eq_true (bnot_f hc69)) | (subst hc69) | (replace hc69 := bnot_f hc69; subst hc69) | (replace hc69 := bnot_f hc69) | skip
                  refine wp_skip ?_
                  refine then_n ?_
                  refine c_seq ?_
                  refine c_seq ?_
                  refine c_region ?_
                  refine seq_yl hF (wn_none rfl) rfl rfl (yl_fieldAddr hF rfl rfl (fun w => by kernel_rfl : ∀ w, (Instr.fieldAt 27 (.pointer (some ⟨g60, 0, none⟩)) 0).run Try.prog w = .ok (.pointer (some ⟨g60, 0, none⟩)) w)) ?_
                  clear hF; intro a hF
                  refine seq_yl hF (wn_none rfl) rfl rfl (yl_load (fun _ h => h ▸ hS) hF rfl rfl 0 rfl ag22 rfl) ?_
                  clear hF; intro a hF
                  refine seq_yl hF (wn_none rfl) rfl rfl (yl_len hF rfl rfl (fun _ => run_lenRd sl22 (hS.rdRow 1 rfl))) ?_
                  clear hF; intro a hF
                  refine seq_yl hF (wn_none rfl) rfl rfl (yl_move hF rfl rfl) ?_
                  clear hF; intro a hF
                  refine wpList_nil ?_
                  refine then_n ?_
                  refine wp_block ?_
                  refine c_loop (fun m a w => ∃ (j : Nat) (F : List Int), m = (E.set d.toNat ((min (((x67) + (1 : Int))) (1000000 : Int)))).length - j ∧ (j ≤ (E.set d.toNat ((min (((x67) + (1 : Int))) (1000000 : Int)))).length ∧ F = half ((E.set d.toNat ((min (((x67) + (1 : Int))) (1000000 : Int)))).take j) ++ (E.set d.toNat ((min (((x67) + (1 : Int))) (1000000 : Int)))).drop j ∧ ∀ e ∈ F, 0 ≤ e ∧ e ≤ 1000000) ∧ Fr 77 a [(1, .int .i64 (d)), (6, .pointer (some ⟨g47, 0, none⟩)), (8, .pointer (some ⟨g60, 0, none⟩)), (37, .int .i64 (n)), (38, .int .i64 ((k : Nat) : Int)), (60, .int .i64 ((((E.set d.toNat ((min (((x67) + (1 : Int))) (1000000 : Int))))).length : Nat) : Int)), (61, .int .i64 ((j : Nat) : Int))] ∧ Sat w0 w (.box g60 27 #[.slice (some ad68) L.length cv61, .int .i64 (p), .int .i64 (((q') - (1 : Int)))] :: .row 3 1 (.slice (some ad68) L.length cv61) (F).length (cells encI (F)) :: .box g47 27 #[.slice none 0 0, .int .i64 (0 : Int), .int .i64 (0 : Int)] :: [])) ((E.set d.toNat ((min (((x67) + (1 : Int))) (1000000 : Int)))).length - 0) ?_ ?_
                  · exact ⟨0, (E.set d.toNat ((min (((x67) + (1 : Int))) (1000000 : Int)))), rfl, ⟨Nat.zero_le _, by simp [half], set_in hmem _ (by omega)⟩, hF.to [1, 6, 8, 37, 38, 60, 61] rfl, (hS.sub [0, 1, 2] (by decide) (by first | rfl | simp) (by simp))⟩
                  · clear hF hS; try clear hSS
                    clear a w; rintro m a w ⟨j, F, rfl, hinv, hF, hS⟩
                    have hinv2 := hinv
                    clear hinv
                    rename (_ : Int) ≤ n ∧ crun _ _ _ _ = _ ∧ _ => hinv
                    have hmem2 := hinv2.2.2
                    have hFl := half_len hinv2.2.1 hinv2.1
                    have hFs : F.length ≤ 4 := by rw [hFl, List.length_set]; omega
                    refine c_seq ?_
                    refine c_region ?_
                    refine seq_yl hF (wn_none rfl) rfl rfl (yl_bin hF rfl rfl rfl rfl (fun _ => run_lss)) ?_
                    clear hF; intro a hF
                    refine wpList_nil ?_
                    refine then_n ?_
                    refine c_seq ?_
                    refine c_cond hF rfl (fun hc70 => ?_) (fun hc70 => ?_)
                    · first | (replace hc70 := of_decide_eq_true hc70) | (replace hc70 := of_decide_eq_false (bnot_t hc70)) | (subst hc70) | (replace hc70 := bnot_t hc70; subst hc70) | (replace hc70 := bnot_t hc70) | skip
                      refine wp_skip ?_
                      refine then_n ?_
                      refine c_seq ?_
                      refine wp_block ?_
                      refine c_seq ?_
                      refine c_region ?_
                      refine seq_yl hF (wn_none rfl) rfl rfl (yl_move hF rfl rfl) ?_
                      clear hF; intro a hF
                      refine seq_yl hF (wn_none rfl) rfl rfl (yl_assign hF rfl rfl) ?_
                      clear hF; intro a hF
                      refine wpList_nil ?_
                      refine then_n ?_
                      refine c_region ?_
                      refine seq_yl hF (wn_none rfl) rfl rfl (yl_fieldAddr hF rfl rfl (fun w => by kernel_rfl : ∀ w, (Instr.fieldAt 27 (.pointer (some ⟨g60, 0, none⟩)) 0).run Try.prog w = .ok (.pointer (some ⟨g60, 0, none⟩)) w)) ?_
                      clear hF; intro a hF
                      refine seq_yl hF (wn_none rfl) rfl rfl (yl_load (fun _ h => h ▸ hS) hF rfl rfl 0 rfl ag22 rfl) ?_
                      clear hF; intro a hF
                      refine seq_yl hF (wn_none rfl) rfl rfl (yl_move hF rfl rfl) ?_
                      clear hF; intro a hF
                      have hlt_hx71 : j < (F).length := by (have := half_len hinv2.2.1 hinv2.1; omega)
                      obtain ⟨x71, hx71⟩ := get_some hlt_hx71
                      have hb_x71 := hmem2 x71 (List.mem_of_getElem? hx71)
                      refine seq_yl hF (wn_none rfl) rfl rfl (yl_indexAddr hF rfl rfl rfl (fun _ => run_idx' sl22 sz3 (hS.rdRow 1 rfl) hlt_hx71)) ?_
                      clear hF; intro a hF
                      refine seq_yl hF (wn_none rfl) rfl rfl (yl_loadAt hF rfl rfl ag3 (fun _ h => rd_cell0 (by subst h; exact hS.rdRow 1 rfl) encI_len hx71 rfl rfl)) ?_
                      clear hF; intro a hF
                      refine seq_yl hF (wn_none rfl) rfl rfl (yl_bin hF rfl rfl rfl rfl (fun _ => run_quoN (by omega) (by omega) (by omega))) ?_
                      clear hF; intro a hF
                      refine seq_yl hF (wn_none rfl) rfl rfl (yl_indexAddr hF rfl rfl rfl (fun _ => run_idx' sl22 sz3 (hS.rdRow 1 rfl) hlt_hx71)) ?_
                      clear hF; intro a hF
                      refine seq_wp (wn_none rfl) (wp_storeAt0 (enc := encI) (z' := (((x71) / (2 : Int)))) hF hS rfl rfl rfl rfl 1 rfl sz3 (by simp [Value.cells, Value.oneCell']) encI_len hx71 (by simp [Value.cells]) rfl ?_)
                      clear hF hS; intro a w hF hS
                      refine wpList_nil ?_
                      refine inb_n ?_
                      refine then_n ?_
                      refine c_region ?_
                      refine seq_yl hF (wn_none rfl) rfl rfl (yl_bin hF rfl rfl rfl rfl (fun _ => run_inc (by omega))) ?_
                      clear hF; intro a hF
                      refine seq_yl hF (wn_none rfl) rfl rfl (yl_move hF rfl rfl) ?_
                      clear hF; intro a hF
                      refine wpList_nil ?_
                      refine then_n ?_
                      exact ⟨_, (by omega), j + 1, _, rfl, ⟨by omega, half_step hinv2.2.1 hx71 (by omega), set_in hinv2.2.2 _ (by omega)⟩, hF.to [1, 6, 8, 37, 38, 60, 61] rfl, (hS.sub [0, 1, 2] (by decide) (by first | rfl | simp) (by simp))⟩
                    · first | (replace hc70 := of_decide_eq_false hc70) | (replace hc70 := of_decide_eq_true (bnot_f hc70)) | (subst hc70) | (replace hc70 := bnot_f hc70; subst hc70) | (replace hc70 := bnot_f hc70) | skip
                      refine wp_exit ?_
                      refine then_x ?_
                      refine then_x ?_
                      refine inb_x ?_
                      refine then_n ?_
                      refine c_region ?_
                      refine seq_yl hF (wn_none rfl) rfl rfl (yl_fieldAddr hF rfl rfl (fun w => by kernel_rfl : ∀ w, (Instr.fieldAt 27 (.pointer (some ⟨g60, 0, none⟩)) 1).run Try.prog w = .ok (.pointer (some ⟨g60, 1, none⟩)) w)) ?_
                      clear hF; intro a hF
                      refine seq_yl hF (wn_none rfl) rfl rfl (yl_load (fun _ h => h ▸ hS) hF rfl rfl 0 rfl ag3 rfl) ?_
                      clear hF; intro a hF
                      refine seq_yl hF (wn_none rfl) rfl rfl (yl_fieldAddr hF rfl rfl (fun w => by kernel_rfl : ∀ w, (Instr.fieldAt 27 (.pointer (some ⟨g60, 0, none⟩)) 2).run Try.prog w = .ok (.pointer (some ⟨g60, 2, none⟩)) w)) ?_
                      clear hF; intro a hF
                      refine seq_wp (wn_none rfl) (wp_store (cs' := #[_, _, _]) hF hS rfl rfl rfl rfl 0 rfl sz3 (by simp [Value.cells, Value.oneCell']) (by simp [Value.cells]) rfl ?_)
                      clear hF hS; intro a w hF hS
                      refine wpList_nil ?_
                      refine inb_n ?_
                      refine then_n ?_
                      refine c_region ?_
                      refine seq_yl hF (wn_none rfl) rfl rfl (yl_bin hF rfl rfl rfl rfl (fun _ => run_inc (by omega))) ?_
                      clear hF; intro a hF
                      refine seq_yl hF (wn_none rfl) rfl rfl (yl_move hF rfl rfl) ?_
                      clear hF; intro a hF
                      refine wpList_nil ?_
                      refine then_n ?_
                      exact ⟨_, (by omega), k + 1, _, _, rfl, ⟨by omega, run_half hinv.2.1 hx67 (by omega) (half_done hinv2.2.1 (by omega)), by have := half_len hinv2.2.1 hinv2.1; rw [List.length_set] at this; omega⟩, hF.to [1, 6, 8, 37, 38] rfl, (hS.sub [0, 1, 2] (by decide) (by first | rfl | simp) (by simp))⟩
              · first | (replace hc66 := of_decide_eq_false hc66) | (replace hc66 := of_decide_eq_true (bnot_f hc66)) | (subst hc66) | (replace hc66 := bnot_f hc66; subst hc66) | (replace hc66 := bnot_f hc66) | skip
                refine wp_exit ?_
                refine then_x ?_
                refine then_x ?_
                refine inb_x ?_
                refine then_n ?_
                refine c_seq ?_
                refine c_region ?_
                refine seq_yl hF (wn_none rfl) rfl rfl (yl_loadK (rs := [_, _, _]) (fun _ h => h ▸ hS) hF rfl rfl 0 rfl ag27 sz27 rfl rfl) ?_
                clear hF; intro a hF
                refine seq_wp (wn_none rfl) (wp_store (cs' := #[_, _, _]) hF hS rfl rfl rfl rfl 2 rfl sz27 (by simp [Value.cells, Value.oneCell']) (by simp [Value.cells]) rfl ?_)
                clear hF hS; intro a w hF hS
                refine seq_yl hF (wn_none rfl) rfl rfl (yl_assign hF rfl rfl) ?_
                clear hF; intro a hF
                refine wpList_nil ?_
                refine then_n ?_
                refine wp_ret ?_
                refine ret_ct hF rfl (resC hS rfl 2 rfl ag27 sz27) rfl ?_
                obtain ⟨hs1, hs2⟩ := st_0 (n := n) hchk (by omega) (by omega) hinv.2.1
                rw [hs1, hs2]
                exact ⟨_, rfl, _, rfl, (hS.sub [1] (by decide) (by first | rfl | simp) (by simp))⟩

end Go.Proofs.Ytllcklmbbkafgaa

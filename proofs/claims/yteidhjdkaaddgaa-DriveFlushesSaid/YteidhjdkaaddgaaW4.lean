/- walks, printed by wip/gen -/
import Derived.Test.YteidhjdkaaddgaaW2
namespace Go.Proofs.Yteidhjdkaaddgaa
open Go.RowKit
set_option linter.unusedVariables false
set_option linter.unusedSimpArgs false

set_option maxRecDepth 100000 in
theorem cloneP_any (v : Value) (L : List E39) (w0 : World) (h : Rd w0 2 v (L).length (cells enc39 (L))) (hn : L.length ≤ 1000000) :
    Fn Try.prog 52 #[v] w0 (fun v w' => ∃ v1, v = v1 ∧ Sat w0 w' [.row 39 2 v1 (L).length (cells enc39 (L))]) := by
  obtain ⟨Av, cv, rfl⟩ := Rd.form h
  refine c_enter (N := 8) (l := [_]) Try.func52 rfl rfl (fun a w hF hS => ?_)
  replace hS := hS.addRo h
  refine c_seq ?_
  refine c_region ?_
  refine seq_yl hF (wn_none rfl) rfl rfl (yl_assign hF rfl rfl) ?_
  clear hF; intro a hF
  refine wpList_nil ?_
  refine then_n ?_
  refine c_seq ?_
  refine c_seq ?_
  refine c_region ?_
  refine seq_yl hF (wn_none rfl) rfl rfl (yl_move hF rfl rfl) ?_
  clear hF; intro a hF
  refine seq_yl hF (wn_none rfl) rfl rfl (yl_bin hF rfl rfl rfl rfl (fun _ => run_slnil sl23)) ?_
  clear hF; intro a hF
  refine wpList_nil ?_
  refine then_n ?_
  refine c_cond hF rfl (fun hc115 => ?_) (fun hc115 => ?_)
  · first | (replace hc115 := of_decide_eq_true hc115) | (replace hc115 := of_decide_eq_false (bnot_t hc115)) | (subst hc115) | (replace hc115 := bnot_t hc115; subst hc115) | (replace hc115 := bnot_t hc115) | skip
    try (have hc115x := hc115; simp only [okS, okI, okW, okP] at hc115x)
    refine c_seq ?_
    refine c_region ?_
    refine seq_yl hF (wn_none rfl) rfl rfl (yl_assign hF rfl rfl) ?_
    clear hF; intro a hF
    refine wpList_nil ?_
    refine then_n ?_
    refine wp_ret ?_
    refine then_r ?_
    refine ret_t hF rfl rfl ?_
    obtain rfl := rd_none h (by assumption)
    replace hS := hS.addNil 39 2
    exact ⟨_, rfl, _, rfl, (hS.sub [0] (by decide) (by first | rfl | simp) (by simp))⟩
  · first | (replace hc115 := of_decide_eq_false hc115) | (replace hc115 := of_decide_eq_true (bnot_f hc115)) | (subst hc115) | (replace hc115 := bnot_f hc115; subst hc115) | (replace hc115 := bnot_f hc115) | skip
    try (have hc115x := hc115; simp only [okS, okI, okW, okP] at hc115x)
    refine wp_skip ?_
    refine then_n ?_
    refine c_seq ?_
    refine c_region ?_
    refine seq_wp (wn_none rfl) (wp_bslice (parts := []) (vs := []) (enc := enc39) (e := 39) (size := 2) (cs := #[]) hF hS rfl rfl rfl rfl ([] : List E39) (fun w => by kernel_rfl) rfl rfl rfl (by decide) ?_)
    clear hF hS; intro a w v117 hF hS
    obtain ⟨Av117, cv117, rfl⟩ := hS.form 0 rfl
    refine seq_yl hF (wn_none rfl) rfl rfl (yl_move hF rfl rfl) ?_
    clear hF; intro a hF
    refine seq_wp (wn_none rfl) (wp_app (enc := enc39) hF hS rfl rfl rfl rfl rfl 0 rfl sl23 inf39 rfl (by decide) (hS.rdRo 1 rfl) enc39_one (by decide) (by first | omega | (simp only [List.length_append, List.length_cons, List.length_nil]; omega) | (simp; omega)) ?_)
    clear hF hS; intro a w v118 hF hS
    obtain ⟨Av118, cv118, rfl⟩ := hS.form 0 rfl
    refine seq_yl hF (wn_none rfl) rfl rfl (yl_assign hF rfl rfl) ?_
    clear hF; intro a hF
    refine wpList_nil ?_
    refine then_n ?_
    refine wp_ret ?_
    refine ret_t hF rfl rfl ?_
    exact ⟨_, rfl, _, rfl, (hS.sub [0] (by decide) (by first | rfl | simp) (by simp))⟩

set_option maxRecDepth 100000 in
theorem without_any (lv : Value) (L : List E39) (s : Int) (w0 : World) (hv : Rd w0 2 lv (L).length (cells enc39 (L))) (hL : L.length ≤ 1000000) :
    Fn Try.prog 44 #[lv, .int .i64 s] w0 (fun v w' => ∃ v1, v = v1 ∧ Sat w0 w' [.row 39 2 v1 ((selL s (fun _ => true) 0 L)).length (cells enc39 ((selL s (fun _ => true) 0 L)))]) := by
  obtain ⟨Alv, clv, rfl⟩ := Rd.form hv
  refine c_enter (N := 28) (l := [_, _]) Try.func44 rfl rfl (fun a w hF hS => ?_)
  replace hS := hS.addRo hv
  refine c_seq ?_
  refine c_region ?_
  refine seq_yl hF (wn_none rfl) rfl rfl (yl_assign hF rfl rfl) ?_
  clear hF; intro a hF
  refine wpList_nil ?_
  refine then_n ?_
  refine c_seq ?_
  refine c_region ?_
  refine seq_yl hF (wn_none rfl) rfl rfl (yl_assign hF rfl rfl) ?_
  clear hF; intro a hF
  refine wpList_nil ?_
  refine then_n ?_
  refine c_seq ?_
  refine c_seq ?_
  refine c_region ?_
  refine seq_yl hF (wn_none rfl) rfl rfl (yl_assign hF rfl rfl) ?_
  clear hF; intro a hF
  refine wpList_nil ?_
  refine then_n ?_
  refine wp_block ?_
  replace hS := hS.addNil 39 2
  refine c_loop (fun m a w => ∃ (k : Nat) (AvR : Option Addr) (mv cvR : Nat), m = L.length - k ∧ (k ≤ L.length) ∧ Fr 28 a [(0, .slice Alv (L).length clv), (1, .int .i64 (s)), (5, .slice AvR mv cvR), (6, .int .i64 ((k : Nat) : Int))] ∧ Sat w0 w (.ro 2 (.slice Alv (L).length clv) (L).length (cells enc39 (L)) :: .row 39 2 (.slice AvR mv cvR) ((selL s (fun _ => true) 0 (L.take k))).length (cells enc39 ((selL s (fun _ => true) 0 (L.take k)))) :: [])) (L.length - 0) ?_ ?_
  · exact ⟨0, none, 0, 0, rfl, (Nat.zero_le _), hF.to [0, 1, 5, 6] rfl, (hS.sub [1, 0] (by decide) (by first | rfl | simp) (by simp))⟩
  · clear hF hS; try clear hSS
    clear a w; rintro m a w ⟨k, AvR, mv, cvR, rfl, hinv, hF, hS⟩
    have hk : k ≤ L.length := hinv
    have hvl := len_selL (s := s) (old := (fun _ => true)) (L.take k) 0
    have htl : (L.take k).length ≤ L.length := by simp; omega
    refine c_seq ?_
    refine c_seq ?_
    refine c_region ?_
    refine seq_yl hF (wn_none rfl) rfl rfl (yl_move hF rfl rfl) ?_
    clear hF; intro a hF
    refine seq_yl hF (wn_none rfl) rfl rfl (yl_move hF rfl rfl) ?_
    clear hF; intro a hF
    refine seq_yl hF (wn_none rfl) rfl rfl (yl_len hF rfl rfl (fun _ => run_lenRd sl23 (hS.rdRo 0 rfl))) ?_
    clear hF; intro a hF
    refine seq_yl hF (wn_none rfl) rfl rfl (yl_bin hF rfl rfl rfl rfl (fun _ => run_lss)) ?_
    clear hF; intro a hF
    refine wpList_nil ?_
    refine then_n ?_
    refine c_cond hF rfl (fun hc119 => ?_) (fun hc119 => ?_)
    · first | (replace hc119 := of_decide_eq_true hc119) | (replace hc119 := of_decide_eq_false (bnot_t hc119)) | (subst hc119) | (replace hc119 := bnot_t hc119; subst hc119) | (replace hc119 := bnot_t hc119) | skip
      try (have hc119x := hc119; simp only [okS, okI, okW, okP] at hc119x)
      refine wp_skip ?_
      refine then_n ?_
      refine c_seq ?_
      refine wp_block ?_
      refine c_seq ?_
      refine c_region ?_
      refine seq_yl hF (wn_none rfl) rfl rfl (yl_move hF rfl rfl) ?_
      clear hF; intro a hF
      refine seq_yl hF (wn_none rfl) rfl rfl (yl_move hF rfl rfl) ?_
      clear hF; intro a hF
      have hlt_hx120 : k < (L).length := by first | omega | (simp; done) | (simp; omega)
      obtain ⟨ad121, rfl⟩ := rd_some (hS.rdRo 0 rfl) hlt_hx120
      obtain ⟨x120, hx120⟩ := get_some hlt_hx120
      refine seq_yl hF (wn_none rfl) rfl rfl (yl_indexAddr hF rfl rfl rfl (fun _ => run_idx' sl23 sz39 (hS.rdRo 0 rfl) hlt_hx120)) ?_
      clear hF; intro a hF
      refine seq_yl hF (wn_none rfl) rfl rfl (yl_fieldAddr hF rfl rfl (fun w => run_fa0 fo39_0)) ?_
      clear hF; intro a hF
      refine seq_yl hF (wn_none rfl) rfl rfl (yl_loadAt hF rfl rfl ag3 (fun _ h => rd_cell0 (enc := enc39) (by subst h; exact hS.rdRo 0 rfl) enc39_len hx120 rfl rfl)) ?_
      clear hF; intro a hF
      refine seq_yl hF (wn_none rfl) rfl rfl (yl_move hF rfl rfl) ?_
      clear hF; intro a hF
      refine seq_yl hF (wn_none rfl) rfl rfl (yl_bin hF rfl rfl rfl rfl (fun _ => run_neq)) ?_
      clear hF; intro a hF
      refine wpList_nil ?_
      refine then_n ?_
      refine c_cond hF rfl (fun hc122 => ?_) (fun hc122 => ?_)
      · first | (replace hc122 := of_decide_eq_true hc122) | (replace hc122 := of_decide_eq_false (bnot_t hc122)) | (subst hc122) | (replace hc122 := bnot_t hc122; subst hc122) | (replace hc122 := bnot_t hc122) | skip
        try (have hc122x := hc122; simp only [okS, okI, okW, okP] at hc122x)
        refine c_region ?_
        refine seq_yl hF (wn_none rfl) rfl rfl (yl_move hF rfl rfl) ?_
        clear hF; intro a hF
        refine seq_yl hF (wn_none rfl) rfl rfl (yl_move hF rfl rfl) ?_
        clear hF; intro a hF
        refine seq_yl hF (wn_none rfl) rfl rfl (yl_move hF rfl rfl) ?_
        clear hF; intro a hF
        refine seq_yl hF (wn_none rfl) rfl rfl (yl_indexAddr hF rfl rfl rfl (fun _ => run_idx' sl23 sz39 (hS.rdRo 0 rfl) hlt_hx120)) ?_
        clear hF; intro a hF
        refine seq_yl hF (wn_none rfl) rfl rfl (yl_loadEl (rs := [.int .i64 (x120.f0), .string x120.f1]) hF rfl rfl ag39 sz39 rfl (fun _ h => rd_cells (enc := enc39) (by subst h; exact hS.rdRo 0 rfl) enc39_len hx120)) ?_
        clear hF; intro a hF
        refine seq_wp (wn_none rfl) (wp_bslice (parts := [(0, .tmp 24)]) (vs := [(0, _)]) (enc := enc39) (e := 39) (size := 2) (cs := #[.int .i64 (x120.f0), .string x120.f1]) hF hS rfl rfl rfl rfl ([(E39.mk (x120.f0) x120.f1)] : List E39) (fun w => by kernel_rfl) rfl rfl rfl (by decide) ?_)
        clear hF hS; intro a w v123 hF hS
        obtain ⟨Av123, cv123, rfl⟩ := hS.form 0 rfl
        refine seq_wp (wn_none rfl) (wp_app (enc := enc39) hF hS rfl rfl rfl rfl rfl 2 rfl sl23 inf39 rfl (by decide) (hS.rdRow 0 rfl) enc39_one (by decide) (by first | omega | (simp only [List.length_append, List.length_cons, List.length_nil]; omega) | (simp; omega)) ?_)
        clear hF hS; intro a w v124 hF hS
        obtain ⟨Av124, cv124, rfl⟩ := hS.form 2 rfl
        refine seq_yl hF (wn_none rfl) rfl rfl (yl_assign hF rfl rfl) ?_
        clear hF; intro a hF
        refine wpList_nil ?_
        refine inb_n ?_
        refine then_n ?_
        refine c_region ?_
        refine seq_yl hF (wn_none rfl) rfl rfl (yl_move hF rfl rfl) ?_
        clear hF; intro a hF
        refine seq_yl hF (wn_none rfl) rfl rfl (yl_bin hF rfl rfl rfl rfl (fun _ => run_inc (by omega))) ?_
        clear hF; intro a hF
        refine seq_yl hF (wn_none rfl) rfl rfl (yl_assign hF rfl rfl) ?_
        clear hF; intro a hF
        refine wpList_nil ?_
        refine then_n ?_
        rw [selL_in (s := s) (old := (fun _ => true)) hx120 (.inl (by assumption))] at hS hF
        exact ⟨_, (by omega), k + 1, Av124, _, cv124, rfl, (show _ ≤ _ by omega), hF.to [0, 1, 5, 6] rfl, (hS.sub [1, 2] (by decide) (by first | rfl | simp) (by simp))⟩
      · first | (replace hc122 := of_decide_eq_false hc122) | (replace hc122 := of_decide_eq_true (bnot_f hc122)) | (subst hc122) | (replace hc122 := bnot_f hc122; subst hc122) | (replace hc122 := bnot_f hc122) | skip
        try (have hc122x := hc122; simp only [okS, okI, okW, okP] at hc122x)
        refine wp_skip ?_
        refine inb_n ?_
        refine then_n ?_
        refine c_region ?_
        refine seq_yl hF (wn_none rfl) rfl rfl (yl_move hF rfl rfl) ?_
        clear hF; intro a hF
        refine seq_yl hF (wn_none rfl) rfl rfl (yl_bin hF rfl rfl rfl rfl (fun _ => run_inc (by omega))) ?_
        clear hF; intro a hF
        refine seq_yl hF (wn_none rfl) rfl rfl (yl_assign hF rfl rfl) ?_
        clear hF; intro a hF
        refine wpList_nil ?_
        refine then_n ?_
        rw [selL_out (s := s) (old := (fun _ => true)) hx120 (by omega) (rfl)] at hS
        exact ⟨_, (by omega), k + 1, AvR, _, cvR, rfl, (show _ ≤ _ by omega), hF.to [0, 1, 5, 6] rfl, (hS.sub [0, 1] (by decide) (by first | rfl | simp) (by simp))⟩
    · first | (replace hc119 := of_decide_eq_false hc119) | (replace hc119 := of_decide_eq_true (bnot_f hc119)) | (subst hc119) | (replace hc119 := bnot_f hc119; subst hc119) | (replace hc119 := bnot_f hc119) | skip
      try (have hc119x := hc119; simp only [okS, okI, okW, okP] at hc119x)
      refine wp_exit ?_
      refine then_x ?_
      refine then_x ?_
      refine inb_x ?_
      refine then_n ?_
      refine c_seq ?_
      refine c_region ?_
      refine seq_yl hF (wn_none rfl) rfl rfl (yl_move hF rfl rfl) ?_
      clear hF; intro a hF
      refine seq_yl hF (wn_none rfl) rfl rfl (yl_assign hF rfl rfl) ?_
      clear hF; intro a hF
      refine wpList_nil ?_
      refine then_n ?_
      refine wp_ret ?_
      refine ret_t hF rfl rfl ?_
      rw [show L.take k = L from List.take_of_length_le (by omega)] at hS; exact ⟨_, rfl, _, rfl, (hS.sub [1] (by decide) (by first | rfl | simp) (by simp))⟩

set_option maxHeartbeats 1000000 in
set_option maxRecDepth 100000 in
theorem dest2_any (st : ByteArray) (lv : Value) (L : List E39) (rm : Int) (q : Int) (w0 : World) (hv : Rd w0 2 lv (L).length (cells enc39 (L))) (hz : (st.size : Int) ≤ 9223372036854775807) (hL : L.length ≤ 1000000) :
    Fn Try.prog 25 #[.agg #[.string st, lv, .int .i64 rm], .int .i64 q] w0 (fun v w' => ∃ (st1 : ByteArray) (lv1 : Value) (L1 : List E39) (rm1 : Int) (b : Bool), v = .tuple #[.agg #[.string st1, lv1, .int .i64 rm1], .bool b] ∧ destF st L rm q = (st1, L1, rm1, b) ∧ Sat w0 w' [.row 39 2 lv1 (L1).length (cells enc39 (L1))]) := by
  obtain ⟨Alv, clv, rfl⟩ := Rd.form hv
  refine c_enter (N := 77) (l := [_, _]) Try.func25 rfl rfl (fun a w hF hS => ?_)
  replace hS := hS.addRo hv
  refine c_seq ?_
  refine c_region ?_
  refine seq_wp (wn_none rfl) (wp_box (cs := #[_, _, _]) hF hS rfl rfl rfl rfl rfl ?_)
  clear hF hS; intro a w g125 hF hS
  refine seq_wp (wn_none rfl) (wp_alloc (cs := #[_, _, _]) hF hS rfl rfl rfl zr25 rfl ?_)
  clear hF hS; intro a w g126 hF hS
  refine seq_yl hF (wn_none rfl) rfl rfl (yl_assign hF rfl rfl) ?_
  clear hF; intro a hF
  refine wpList_nil ?_
  refine then_n ?_
  refine c_seq ?_
  refine c_seq ?_
  refine c_region ?_
  refine seq_yl hF (wn_none rfl) rfl rfl (yl_loadK (rs := [_, _, _]) (fun _ h => h ▸ hS) hF rfl rfl 1 rfl ag25 sz25 rfl rfl) ?_
  clear hF; intro a hF
  refine seq_wp (wn_none rfl) (wp_call (vs := [_]) hF rfl rfl rfl rfl cf27 (dValid2_any st _ L (rm) _ (hS.rdRo 2 rfl) (by first | omega | (simp; done)) (by first | omega | (simp; done))) ?_)
  clear hF; rintro _ w ⟨rfl, hS1⟩ a hF
  replace hS := hS.callB hS1 rfl; clear hS1
  refine seq_yl hF (wn_none rfl) rfl rfl (yl_un hF rfl rfl (fun _ => run_not)) ?_
  clear hF; intro a hF
  refine seq_yl hF (wn_none rfl) rfl rfl (yl_move hF rfl rfl) ?_
  clear hF; intro a hF
  refine fr_split hF (fun hc127 hF => ?_) (fun hc127 hF => ?_)
  · first | (replace hc127 := of_decide_eq_true hc127) | (replace hc127 := of_decide_eq_false (bnot_t hc127)) | (subst hc127) | (replace hc127 := bnot_t hc127; subst hc127) | (replace hc127 := bnot_t hc127) | skip
    try (have hc127x := hc127; simp only [okS, okI, okW, okP] at hc127x)
    refine seq_skip hF (wn_f hF rfl rfl rfl rfl) rfl rfl ?_
    clear hF; intro a hF
    refine seq_skip hF (wn_f hF rfl rfl rfl rfl) rfl rfl ?_
    clear hF; intro a hF
    refine seq_yl hF (wn_none rfl) rfl rfl (yl_pick (u := _) (v := undef) hF rfl rfl (fun _ => rfl) (fun h => by cases h)) ?_
    clear hF; intro a hF
    refine seq_yl hF (wn_none rfl) rfl rfl (yl_move hF rfl rfl) ?_
    clear hF; intro a hF
    refine seq_skip hF (wn_f hF rfl rfl rfl rfl) rfl rfl ?_
    clear hF; intro a hF
    refine seq_skip hF (wn_f hF rfl rfl rfl rfl) rfl rfl ?_
    clear hF; intro a hF
    refine seq_skip hF (wn_f hF rfl rfl rfl rfl) rfl rfl ?_
    clear hF; intro a hF
    refine seq_skip hF (wn_f hF rfl rfl rfl rfl) rfl rfl ?_
    clear hF; intro a hF
    refine seq_skip hF (wn_f hF rfl rfl rfl rfl) rfl rfl ?_
    clear hF; intro a hF
    refine seq_yl hF (wn_none rfl) rfl rfl (yl_pick (u := _) (v := undef) hF rfl rfl (fun _ => rfl) (fun h => by cases h)) ?_
    clear hF; intro a hF
    refine wpList_nil ?_
    refine then_n ?_
    refine c_cond_t hF rfl ?_
    refine c_seq ?_
    refine c_region ?_
    refine seq_yl hF (wn_none rfl) rfl rfl (yl_build (parts := []) (vs := []) (cs := [_, _, _]) hF bd25 rfl rfl rfl rfl) ?_
    clear hF; intro a hF
    refine seq_wp (wn_none rfl) (wp_store (cs' := #[_, _, _]) hF hS rfl rfl rfl rfl 0 rfl sz25 (by simp [Value.cells, Value.oneCell']) (by simp [Value.cells]) rfl ?_)
    clear hF hS; intro a w hF hS
    refine seq_yl hF (wn_none rfl) rfl rfl (yl_assign hF rfl rfl) ?_
    clear hF; intro a hF
    refine wpList_nil ?_
    refine then_n ?_
    refine wp_ret ?_
    refine then_r ?_
    refine ret_ct hF rfl (resC hS rfl 0 rfl ag25 sz25) rfl ?_
    replace hS := hS.addNil 39 2
    exact ⟨_, rfl, _, _, [], _, _, rfl, ds_bad (fun h9 => by have h8 := h9.2; first | exact absurd h9.1 (by assumption) | omega), (hS.sub [0] (by decide) (by first | rfl | simp) (by simp))⟩
  · first | (replace hc127 := of_decide_eq_false hc127) | (replace hc127 := of_decide_eq_true (bnot_f hc127)) | (subst hc127) | (replace hc127 := bnot_f hc127; subst hc127) | (replace hc127 := bnot_f hc127) | skip
    try (have hc127x := hc127; simp only [okS, okI, okW, okP] at hc127x)
    refine seq_yl hF (wn_t hF rfl rfl rfl rfl) rfl rfl (yl_move hF rfl rfl) ?_
    clear hF; intro a hF
    refine seq_yl hF (wn_t hF rfl rfl rfl rfl) rfl rfl (yl_bin hF rfl rfl rfl rfl (fun _ => run_lss)) ?_
    clear hF; intro a hF
    refine seq_yl hF (wn_none rfl) rfl rfl (yl_pick (u := _) (v := undef) hF rfl rfl (fun h => by cases h) (fun _ => rfl)) ?_
    clear hF; intro a hF
    refine seq_yl hF (wn_none rfl) rfl rfl (yl_move hF rfl rfl) ?_
    clear hF; intro a hF
    refine fr_split hF (fun hc129 hF => ?_) (fun hc129 hF => ?_)
    · first | (replace hc129 := of_decide_eq_true hc129) | (replace hc129 := of_decide_eq_false (bnot_t hc129)) | (subst hc129) | (replace hc129 := bnot_t hc129; subst hc129) | (replace hc129 := bnot_t hc129) | skip
      try (have hc129x := hc129; simp only [okS, okI, okW, okP] at hc129x)
      refine seq_skip hF (wn_f hF rfl rfl rfl rfl) rfl rfl ?_
      clear hF; intro a hF
      refine seq_skip hF (wn_f hF rfl rfl rfl rfl) rfl rfl ?_
      clear hF; intro a hF
      refine seq_skip hF (wn_f hF rfl rfl rfl rfl) rfl rfl ?_
      clear hF; intro a hF
      refine seq_skip hF (wn_f hF rfl rfl rfl rfl) rfl rfl ?_
      clear hF; intro a hF
      refine seq_skip hF (wn_f hF rfl rfl rfl rfl) rfl rfl ?_
      clear hF; intro a hF
      refine seq_yl hF (wn_none rfl) rfl rfl (yl_pick (u := _) (v := undef) hF rfl rfl (fun _ => rfl) (fun h => by cases h)) ?_
      clear hF; intro a hF
      refine wpList_nil ?_
      refine then_n ?_
      refine c_cond_t hF rfl ?_
      refine c_seq ?_
      refine c_region ?_
      refine seq_yl hF (wn_none rfl) rfl rfl (yl_build (parts := []) (vs := []) (cs := [_, _, _]) hF bd25 rfl rfl rfl rfl) ?_
      clear hF; intro a hF
      refine seq_wp (wn_none rfl) (wp_store (cs' := #[_, _, _]) hF hS rfl rfl rfl rfl 0 rfl sz25 (by simp [Value.cells, Value.oneCell']) (by simp [Value.cells]) rfl ?_)
      clear hF hS; intro a w hF hS
      refine seq_yl hF (wn_none rfl) rfl rfl (yl_assign hF rfl rfl) ?_
      clear hF; intro a hF
      refine wpList_nil ?_
      refine then_n ?_
      refine wp_ret ?_
      refine then_r ?_
      refine ret_ct hF rfl (resC hS rfl 0 rfl ag25 sz25) rfl ?_
      replace hS := hS.addNil 39 2
      exact ⟨_, rfl, _, _, [], _, _, rfl, ds_bad (fun h9 => by have h8 := h9.2; first | exact absurd h9.1 (by assumption) | omega), (hS.sub [0] (by decide) (by first | rfl | simp) (by simp))⟩
    · first | (replace hc129 := of_decide_eq_false hc129) | (replace hc129 := of_decide_eq_true (bnot_f hc129)) | (subst hc129) | (replace hc129 := bnot_f hc129; subst hc129) | (replace hc129 := bnot_f hc129) | skip
      try (have hc129x := hc129; simp only [okS, okI, okW, okP] at hc129x)
      refine seq_yl hF (wn_t hF rfl rfl rfl rfl) rfl rfl (yl_move hF rfl rfl) ?_
      clear hF; intro a hF
      refine seq_yl hF (wn_t hF rfl rfl rfl rfl) rfl rfl (yl_fieldAddr hF rfl rfl (fun w => by kernel_rfl : ∀ w, (Instr.fieldAt 25 (.pointer (some ⟨g125, 0, none⟩)) 1).run Try.prog w = .ok (.pointer (some ⟨g125, 1, none⟩)) w)) ?_
      clear hF; intro a hF
      refine seq_yl hF (wn_t hF rfl rfl rfl rfl) rfl rfl (yl_load (fun _ h => h ▸ hS) hF rfl rfl 1 rfl ag23 rfl) ?_
      clear hF; intro a hF
      refine seq_yl hF (wn_t hF rfl rfl rfl rfl) rfl rfl (yl_len hF rfl rfl (fun _ => run_lenRd sl23 (hS.rdRo 2 rfl))) ?_
      clear hF; intro a hF
      refine seq_yl hF (wn_t hF rfl rfl rfl rfl) rfl rfl (yl_bin hF rfl rfl rfl rfl (fun _ => run_geq)) ?_
      clear hF; intro a hF
      refine seq_yl hF (wn_none rfl) rfl rfl (yl_pick (u := _) (v := undef) hF rfl rfl (fun h => by cases h) (fun _ => rfl)) ?_
      clear hF; intro a hF
      refine wpList_nil ?_
      refine then_n ?_
      refine c_cond hF rfl (fun hc131 => ?_) (fun hc131 => ?_)
      · first | (replace hc131 := of_decide_eq_true hc131) | (replace hc131 := of_decide_eq_false (bnot_t hc131)) | (subst hc131) | (replace hc131 := bnot_t hc131; subst hc131) | (replace hc131 := bnot_t hc131) | skip
        try (have hc131x := hc131; simp only [okS, okI, okW, okP] at hc131x)
        refine c_seq ?_
        refine c_region ?_
        refine seq_yl hF (wn_none rfl) rfl rfl (yl_build (parts := []) (vs := []) (cs := [_, _, _]) hF bd25 rfl rfl rfl rfl) ?_
        clear hF; intro a hF
        refine seq_wp (wn_none rfl) (wp_store (cs' := #[_, _, _]) hF hS rfl rfl rfl rfl 0 rfl sz25 (by simp [Value.cells, Value.oneCell']) (by simp [Value.cells]) rfl ?_)
        clear hF hS; intro a w hF hS
        refine seq_yl hF (wn_none rfl) rfl rfl (yl_assign hF rfl rfl) ?_
        clear hF; intro a hF
        refine wpList_nil ?_
        refine then_n ?_
        refine wp_ret ?_
        refine then_r ?_
        refine ret_ct hF rfl (resC hS rfl 0 rfl ag25 sz25) rfl ?_
        replace hS := hS.addNil 39 2
        exact ⟨_, rfl, _, _, [], _, _, rfl, ds_bad (fun h9 => by have h8 := h9.2; first | exact absurd h9.1 (by assumption) | omega), (hS.sub [0] (by decide) (by first | rfl | simp) (by simp))⟩
      · first | (replace hc131 := of_decide_eq_false hc131) | (replace hc131 := of_decide_eq_true (bnot_f hc131)) | (subst hc131) | (replace hc131 := bnot_f hc131; subst hc131) | (replace hc131 := bnot_f hc131) | skip
        try (have hc131x := hc131; simp only [okS, okI, okW, okP] at hc131x)
        refine wp_skip ?_
        refine then_n ?_
        refine c_seq ?_
        refine c_region ?_
        obtain ⟨kk, rfl⟩ : ∃ n : Nat, q = (n : Int) := ⟨q.toNat, by omega⟩
        refine seq_yl hF (wn_none rfl) rfl rfl (yl_fieldAddr hF rfl rfl (fun w => by kernel_rfl : ∀ w, (Instr.fieldAt 25 (.pointer (some ⟨g125, 0, none⟩)) 1).run Try.prog w = .ok (.pointer (some ⟨g125, 1, none⟩)) w)) ?_
        clear hF; intro a hF
        refine seq_yl hF (wn_none rfl) rfl rfl (yl_load (fun _ h => h ▸ hS) hF rfl rfl 1 rfl ag23 rfl) ?_
        clear hF; intro a hF
        refine seq_yl hF (wn_none rfl) rfl rfl (yl_move hF rfl rfl) ?_
        clear hF; intro a hF
        have hlt_hx133 : kk < (L).length := by first | omega | (simp; done) | (simp; omega)
        obtain ⟨ad134, rfl⟩ := rd_some (hS.rdRo 2 rfl) hlt_hx133
        obtain ⟨x133, hx133⟩ := get_some hlt_hx133
        refine seq_yl hF (wn_none rfl) rfl rfl (yl_indexAddr hF rfl rfl rfl (fun _ => run_idx' sl23 sz39 (hS.rdRo 2 rfl) hlt_hx133)) ?_
        clear hF; intro a hF
        refine seq_yl hF (wn_none rfl) rfl rfl (yl_loadEl (rs := [.int .i64 (x133.f0), .string x133.f1]) hF rfl rfl ag39 sz39 rfl (fun _ h => rd_cells (enc := enc39) (by subst h; exact hS.rdRo 2 rfl) enc39_len hx133)) ?_
        clear hF; intro a hF
        refine seq_wp (wn_none rfl) (wp_alloc (cs := #[_, _]) hF hS rfl rfl rfl zr39 rfl ?_)
        clear hF hS; intro a w g135 hF hS
        refine seq_wp (wn_none rfl) (wp_store (cs' := #[_, _]) hF hS rfl rfl rfl rfl 0 rfl sz39 (by simp [Value.cells, Value.oneCell']) (by simp [Value.cells]) rfl ?_)
        clear hF hS; intro a w hF hS
        refine wpList_nil ?_
        refine then_n ?_
        refine c_seq ?_
        refine c_region ?_
        refine seq_yl hF (wn_none rfl) rfl rfl (yl_fieldAddr hF rfl rfl (fun w => by kernel_rfl : ∀ w, (Instr.fieldAt 25 (.pointer (some ⟨g125, 0, none⟩)) 0).run Try.prog w = .ok (.pointer (some ⟨g125, 0, none⟩)) w)) ?_
        clear hF; intro a hF
        refine seq_yl hF (wn_none rfl) rfl rfl (yl_load (fun _ h => h ▸ hS) hF rfl rfl 2 rfl ag9 rfl) ?_
        clear hF; intro a hF
        refine seq_yl hF (wn_none rfl) rfl rfl (yl_fieldAddr hF rfl rfl (fun w => by kernel_rfl : ∀ w, (Instr.fieldAt 39 (.pointer (some ⟨g135, 0, none⟩)) 0).run Try.prog w = .ok (.pointer (some ⟨g135, 0, none⟩)) w)) ?_
        clear hF; intro a hF
        refine seq_yl hF (wn_none rfl) rfl rfl (yl_load (fun _ h => h ▸ hS) hF rfl rfl 0 rfl ag3 rfl) ?_
        clear hF; intro a hF
        refine seq_yl hF (wn_none rfl) rfl rfl (yl_fieldAddr hF rfl rfl (fun w => by kernel_rfl : ∀ w, (Instr.fieldAt 39 (.pointer (some ⟨g135, 0, none⟩)) 1).run Try.prog w = .ok (.pointer (some ⟨g135, 1, none⟩)) w)) ?_
        clear hF; intro a hF
        refine seq_yl hF (wn_none rfl) rfl rfl (yl_load (fun _ h => h ▸ hS) hF rfl rfl 0 rfl ag9 rfl) ?_
        clear hF; intro a hF
        have hpz := ((‹okD st L rm› : okD st L rm).2.2.2 _ (List.mem_of_getElem? hx133)).2
        refine seq_wp (wn_none rfl) (wp_call (vs := [_, _, _]) hF rfl rfl rfl rfl cf31 (imWrite2_any st (x133.f0) x133.f1 _ (by omega) (by omega)) ?_)
        clear hF; rintro _ w ⟨xs136, e137, rfl, hsp138, hS1⟩ a hF
        replace hS := hS.callB hS1 rfl; clear hS1
        have hsp138z := fun h9 : okW ((st).size : Int) (x133.f0) ((x133.f1).size : Int) => wim_size (im := st) (s := (x133.f0)) (x := x133.f1) h9
        obtain ⟨hk139, rfl, rfl⟩ := hsp138.resolve_right (fun h9 => h9.1 (okP_W ((‹okD st L rm› : okD st L rm).2.2.2 _ (List.mem_of_getElem? hx133))))
        try (have hk139x := hk139; simp only [okS, okI, okW, okP] at hk139x)
        refine seq_yl hF (wn_none rfl) rfl rfl (yl_move hF rfl rfl) ?_
        clear hF; intro a hF
        refine seq_yl hF (wn_none rfl) rfl rfl (yl_extract hF rfl rfl rfl) ?_
        clear hF; intro a hF
        refine seq_yl hF (wn_none rfl) rfl rfl (yl_extract hF rfl rfl rfl) ?_
        clear hF; intro a hF
        refine seq_yl hF (wn_none rfl) rfl rfl (yl_assign hF rfl rfl) ?_
        clear hF; intro a hF
        refine seq_yl hF (wn_none rfl) rfl rfl (yl_assign hF rfl rfl) ?_
        clear hF; intro a hF
        refine wpList_nil ?_
        refine then_n ?_
        refine c_seq ?_
        refine c_region ?_
        refine seq_yl hF (wn_none rfl) rfl rfl (yl_move hF rfl rfl) ?_
        clear hF; intro a hF
        refine seq_yl hF (wn_none rfl) rfl rfl (yl_fieldAddr hF rfl rfl (fun w => by kernel_rfl : ∀ w, (Instr.fieldAt 25 (.pointer (some ⟨g125, 0, none⟩)) 2).run Try.prog w = .ok (.pointer (some ⟨g125, 2, none⟩)) w)) ?_
        clear hF; intro a hF
        refine seq_yl hF (wn_none rfl) rfl rfl (yl_load (fun _ h => h ▸ hS) hF rfl rfl 2 rfl ag3 rfl) ?_
        clear hF; intro a hF
        refine seq_yl hF (wn_none rfl) rfl rfl (yl_build (parts := [(0, .tmp 41), (2, .tmp 43)]) (vs := [(0, _), (2, _)]) (cs := [_, _, _]) hF bd25 rfl rfl rfl rfl) ?_
        clear hF; intro a hF
        refine seq_wp (wn_none rfl) (wp_alloc (cs := #[_, _, _]) hF hS rfl rfl rfl zr25 rfl ?_)
        clear hF hS; intro a w g140 hF hS
        refine seq_wp (wn_none rfl) (wp_store (cs' := #[_, _, _]) hF hS rfl rfl rfl rfl 0 rfl sz25 (by simp [Value.cells, Value.oneCell']) (by simp [Value.cells]) rfl ?_)
        clear hF hS; intro a w hF hS
        refine wpList_nil ?_
        refine then_n ?_
        refine c_seq ?_
        refine c_seq ?_
        refine c_region ?_
        refine seq_yl hF (wn_none rfl) rfl rfl (yl_assign hF rfl rfl) ?_
        clear hF; intro a hF
        refine wpList_nil ?_
        refine then_n ?_
        refine wp_block ?_
        replace hS := hS.addNil 39 2
        refine c_loop (fun m a w => ∃ (k : Nat) (AvR : Option Addr) (mv cvR : Nat), m = L.length - k ∧ (k ≤ L.length) ∧ Fr 77 a [(1, .int .i64 ((kk : Nat) : Int)), (2, .pointer (some ⟨g125, 0, none⟩)), (4, .pointer (some ⟨g126, 0, none⟩)), (6, .pointer (some ⟨g135, 0, none⟩)), (9, .pointer (some ⟨g140, 0, none⟩)), (10, .int .i64 ((k : Nat) : Int))] ∧ Sat w0 w (.box g125 25 #[.string st, .slice (some ad134) (L).length clv, .int .i64 (rm)] :: .box g135 39 #[.int .i64 (x133.f0), .string x133.f1] :: .box g140 25 #[.string (wim st (x133.f0) x133.f1), .slice AvR mv cvR, .int .i64 (rm)] :: .ro 2 (.slice (some ad134) (L).length clv) (L).length (cells enc39 (L)) :: .row 39 2 (.slice AvR mv cvR) ((selL x133.f0 (fun i => decide (i ≤ ((kk : Nat) : Int))) 0 (L.take k))).length (cells enc39 ((selL x133.f0 (fun i => decide (i ≤ ((kk : Nat) : Int))) 0 (L.take k)))) :: .box g126 25 #[.string (⟨#[]⟩ : ByteArray), .slice none 0 0, .int .i64 (0 : Int)] :: [])) (L.length - 0) ?_ ?_
        · exact ⟨0, none, 0, 0, rfl, (Nat.zero_le _), hF.to [1, 2, 4, 6, 9, 10] rfl, (hS.sub [4, 2, 1, 5, 0, 3] (by decide) (by first | rfl | simp) (by simp))⟩
        · clear hF hS; try clear hSS
          clear a w; rintro m a w ⟨k, AvR, mv, cvR, rfl, hinv, hF, hS⟩
          have hk : k ≤ L.length := hinv
          have hvl := len_selL (s := x133.f0) (old := (fun i => decide (i ≤ ((kk : Nat) : Int)))) (L.take k) 0
          have htl : (L.take k).length ≤ L.length := by simp; omega
          refine c_seq ?_
          refine c_seq ?_
          refine c_region ?_
          refine seq_yl hF (wn_none rfl) rfl rfl (yl_move hF rfl rfl) ?_
          clear hF; intro a hF
          refine seq_yl hF (wn_none rfl) rfl rfl (yl_fieldAddr hF rfl rfl (fun w => by kernel_rfl : ∀ w, (Instr.fieldAt 25 (.pointer (some ⟨g125, 0, none⟩)) 1).run Try.prog w = .ok (.pointer (some ⟨g125, 1, none⟩)) w)) ?_
          clear hF; intro a hF
          refine seq_yl hF (wn_none rfl) rfl rfl (yl_load (fun _ h => h ▸ hS) hF rfl rfl 0 rfl ag23 rfl) ?_
          clear hF; intro a hF
          refine seq_yl hF (wn_none rfl) rfl rfl (yl_len hF rfl rfl (fun _ => run_lenRd sl23 (hS.rdRo 3 rfl))) ?_
          clear hF; intro a hF
          refine seq_yl hF (wn_none rfl) rfl rfl (yl_bin hF rfl rfl rfl rfl (fun _ => run_lss)) ?_
          clear hF; intro a hF
          refine wpList_nil ?_
          refine then_n ?_
          refine c_cond hF rfl (fun hc141 => ?_) (fun hc141 => ?_)
          · first | (replace hc141 := of_decide_eq_true hc141) | (replace hc141 := of_decide_eq_false (bnot_t hc141)) | (subst hc141) | (replace hc141 := bnot_t hc141; subst hc141) | (replace hc141 := bnot_t hc141) | skip
            try (have hc141x := hc141; simp only [okS, okI, okW, okP] at hc141x)
            refine wp_skip ?_
            refine then_n ?_
            refine c_seq ?_
            refine wp_block ?_
            refine c_seq ?_
            refine ha_startS hS [0, 3, 1] 14 (by kernel_rfl) ?_; clear hS; intro w hS
            have hSS := hS.sub [0, 3, 1] (by decide) rfl (by simp)
            refine ha_y 0 hF rfl rfl rfl (wn_none rfl) (.inr hSS) (yl_move hF rfl rfl) ?_
            clear hF; intro a hF
            refine ha_y 1 hF rfl rfl rfl (wn_none rfl) (.inr hSS) (yl_move hF rfl rfl) ?_
            clear hF; intro a hF
            refine ha_y 2 hF rfl rfl rfl (wn_none rfl) (.inr hSS) (yl_bin hF rfl rfl rfl rfl (fun _ => run_gtr)) ?_
            clear hF; intro a hF
            refine ha_y 3 hF rfl rfl rfl (wn_none rfl) (.inr hSS) (yl_move hF rfl rfl) ?_
            clear hF; intro a hF
            refine fr_split hF (fun hc142 hF => ?_) (fun hc142 hF => ?_)
            · first | (replace hc142 := of_decide_eq_true hc142) | (replace hc142 := of_decide_eq_false (bnot_t hc142)) | (subst hc142) | (replace hc142 := bnot_t hc142; subst hc142) | (replace hc142 := bnot_t hc142) | skip
              try (have hc142x := hc142; simp only [okS, okI, okW, okP] at hc142x)
              refine ha_s 4 hF rfl rfl rfl (wn_f hF rfl rfl rfl rfl) (.inr hSS) ?_
              clear hF; intro a hF
              refine ha_s 5 hF rfl rfl rfl (wn_f hF rfl rfl rfl rfl) (.inr hSS) ?_
              clear hF; intro a hF
              refine ha_s 6 hF rfl rfl rfl (wn_f hF rfl rfl rfl rfl) (.inr hSS) ?_
              clear hF; intro a hF
              refine ha_s 7 hF rfl rfl rfl (wn_f hF rfl rfl rfl rfl) (.inr hSS) ?_
              clear hF; intro a hF
              refine ha_s 8 hF rfl rfl rfl (wn_f hF rfl rfl rfl rfl) (.inr hSS) ?_
              clear hF; intro a hF
              refine ha_s 9 hF rfl rfl rfl (wn_f hF rfl rfl rfl rfl) (.inr hSS) ?_
              clear hF; intro a hF
              refine ha_s 10 hF rfl rfl rfl (wn_f hF rfl rfl rfl rfl) (.inr hSS) ?_
              clear hF; intro a hF
              refine ha_s 11 hF rfl rfl rfl (wn_f hF rfl rfl rfl rfl) (.inr hSS) ?_
              clear hF; intro a hF
              refine ha_s 12 hF rfl rfl rfl (wn_f hF rfl rfl rfl rfl) (.inr hSS) ?_
              clear hF; intro a hF
              refine ha_y 13 hF rfl rfl rfl (wn_none rfl) (.inr hSS) (yl_pick (u := _) (v := undef) hF rfl rfl (fun _ => rfl) (fun h => by cases h)) ?_
              clear hF; intro a hF
              refine ha_done (by kernel_rfl) ?_ _
              refine then_n ?_
              refine c_cond_t hF rfl ?_
              refine ha_startS hS [2, 0, 3] 10 (by kernel_rfl) ?_; clear hS; intro w hS
              have hSS := hS.sub [2, 0, 3] (by decide) rfl (by simp)
              refine ha_y 0 hF rfl rfl rfl (wn_none rfl) (.inr hSS) (yl_fieldAddr hF rfl rfl (fun w => by kernel_rfl : ∀ w, (Instr.fieldAt 25 (.pointer (some ⟨g140, 0, none⟩)) 1).run Try.prog w = .ok (.pointer (some ⟨g140, 1, none⟩)) w)) ?_
              clear hF; intro a hF
              refine ha_y 2 hF rfl rfl rfl (wn_none rfl) (.inr hSS) (yl_fieldAddr hF rfl rfl (fun w => by kernel_rfl : ∀ w, (Instr.fieldAt 25 (.pointer (some ⟨g125, 0, none⟩)) 1).run Try.prog w = .ok (.pointer (some ⟨g125, 1, none⟩)) w)) ?_
              clear hF; intro a hF
              refine ha_y 4 hF rfl rfl rfl (wn_none rfl) (.inr hSS) (yl_move hF rfl rfl) ?_
              clear hF; intro a hF
              refine ha_l 1 hF rfl rfl rfl (wn_none rfl) hSS (yl_load (fun _ h => h) hF rfl rfl 0 rfl ag23 rfl) ?_
              clear hF; intro a hF
              refine ha_l 3 hF rfl rfl rfl (wn_none rfl) hSS (yl_load (fun _ h => h) hF rfl rfl 1 rfl ag23 rfl) ?_
              clear hF; intro a hF
              have hlt_hx143 : k < (L).length := by first | omega | (simp; done) | (simp; omega)
              obtain ⟨x143, hx143⟩ := get_some hlt_hx143
              refine ha_y 5 hF rfl rfl rfl (wn_none rfl) (.inr hSS) (yl_indexAddr hF rfl rfl rfl (fun _ => run_idx' sl23 sz39 (hS.rdRo 3 rfl) hlt_hx143)) ?_
              clear hF; intro a hF
              refine ha_l 6 hF rfl rfl rfl (wn_none rfl) hSS (yl_loadEl (rs := [.int .i64 (x143.f0), .string x143.f1]) hF rfl rfl ag39 sz39 rfl (fun _ h => rd_cells (enc := enc39) (Sat.rdRo h 2 rfl) enc39_len hx143)) ?_
              clear hF; intro a hF
              refine ha_one 7 (by kernel_rfl) rfl (wn_none rfl) (wp_bslice (parts := [(0, .tmp 72)]) (vs := [(0, _)]) (enc := enc39) (e := 39) (size := 2) (cs := #[.int .i64 (x143.f0), .string x143.f1]) hF hS rfl rfl rfl rfl ([(E39.mk (x143.f0) x143.f1)] : List E39) (fun w => by kernel_rfl) rfl rfl rfl (by decide) ?_)
              clear hF hS; intro a w v144 hF hS
              obtain ⟨Av144, cv144, rfl⟩ := hS.form 0 rfl
              replace hSS := hS.sub [3, 1, 4] (by decide) rfl (by simp)
              refine ⟨.inr hSS, ?_⟩
              refine ha_one 8 (by kernel_rfl) rfl (wn_none rfl) (wp_app (enc := enc39) hF hS rfl rfl rfl rfl rfl 5 rfl sl23 inf39 rfl (by decide) (hS.rdRow 0 rfl) enc39_one (by decide) (by first | omega | (simp only [List.length_append, List.length_cons, List.length_nil]; omega) | (simp; omega)) ?_)
              clear hF hS; intro a w v145 hF hS
              obtain ⟨Av145, cv145, rfl⟩ := hS.form 5 rfl
              replace hSS := hS.sub [3, 1, 4] (by decide) rfl (by simp)
              refine ⟨.inr hSS, ?_⟩
              refine ha_y 9 hF rfl rfl rfl (wn_none rfl) (.inr hSS) (yl_fieldAddr hF rfl rfl (fun w => by kernel_rfl : ∀ w, (Instr.fieldAt 25 (.pointer (some ⟨g140, 0, none⟩)) 1).run Try.prog w = .ok (.pointer (some ⟨g140, 1, none⟩)) w)) ?_
              clear hF; intro a hF
              refine ha_one 10 (by kernel_rfl) rfl (wn_none rfl) (wp_store (cs' := #[_, _, _]) hF hS rfl rfl rfl rfl 3 rfl sz23 (by simp [Value.cells, Value.oneCell']) (by simp [Value.cells]) rfl ?_)
              clear hF hS; intro a w hF hS
              refine ⟨.inl (by kernel_rfl), ?_⟩
              refine ha_done (by kernel_rfl) ?_ _
              refine inb_n ?_
              refine then_n ?_
              refine c_region ?_
              refine seq_yl hF (wn_none rfl) rfl rfl (yl_move hF rfl rfl) ?_
              clear hF; intro a hF
              refine seq_yl hF (wn_none rfl) rfl rfl (yl_bin hF rfl rfl rfl rfl (fun _ => run_inc (by omega))) ?_
              clear hF; intro a hF
              refine seq_yl hF (wn_none rfl) rfl rfl (yl_assign hF rfl rfl) ?_
              clear hF; intro a hF
              refine wpList_nil ?_
              refine then_n ?_
              rw [selL_in (s := x133.f0) (old := (fun i => decide (i ≤ ((kk : Nat) : Int)))) hx143 (by first | exact .inl (by assumption) | exact .inr (decide_eq_false (by omega)))] at hS hF
              exact ⟨_, (by omega), k + 1, Av145, _, cv145, rfl, (show _ ≤ _ by omega), hF.to [1, 2, 4, 6, 9, 10] rfl, (hS.sub [1, 2, 3, 4, 5, 6] (by decide) (by first | rfl | simp) (by simp))⟩
            · first | (replace hc142 := of_decide_eq_false hc142) | (replace hc142 := of_decide_eq_true (bnot_f hc142)) | (subst hc142) | (replace hc142 := bnot_f hc142; subst hc142) | (replace hc142 := bnot_f hc142) | skip
              try (have hc142x := hc142; simp only [okS, okI, okW, okP] at hc142x)
              refine ha_y 4 hF rfl rfl rfl (wn_t hF rfl rfl rfl rfl) (.inr hSS) (yl_fieldAddr hF rfl rfl (fun w => by kernel_rfl : ∀ w, (Instr.fieldAt 25 (.pointer (some ⟨g125, 0, none⟩)) 1).run Try.prog w = .ok (.pointer (some ⟨g125, 1, none⟩)) w)) ?_
              clear hF; intro a hF
              refine ha_y 6 hF rfl rfl rfl (wn_t hF rfl rfl rfl rfl) (.inr hSS) (yl_move hF rfl rfl) ?_
              clear hF; intro a hF
              refine ha_y 10 hF rfl rfl rfl (wn_t hF rfl rfl rfl rfl) (.inr hSS) (yl_fieldAddr hF rfl rfl (fun w => by kernel_rfl : ∀ w, (Instr.fieldAt 39 (.pointer (some ⟨g135, 0, none⟩)) 0).run Try.prog w = .ok (.pointer (some ⟨g135, 0, none⟩)) w)) ?_
              clear hF; intro a hF
              refine ha_l 5 hF rfl rfl rfl (wn_t hF rfl rfl rfl rfl) hSS (yl_load (fun _ h => h) hF rfl rfl 0 rfl ag23 rfl) ?_
              clear hF; intro a hF
              have hlt_hx146 : k < (L).length := by first | omega | (simp; done) | (simp; omega)
              obtain ⟨x146, hx146⟩ := get_some hlt_hx146
              refine ha_y 7 hF rfl rfl rfl (wn_t hF rfl rfl rfl rfl) (.inr hSS) (yl_indexAddr hF rfl rfl rfl (fun _ => run_idx' sl23 sz39 (hS.rdRo 3 rfl) hlt_hx146)) ?_
              clear hF; intro a hF
              refine ha_y 8 hF rfl rfl rfl (wn_t hF rfl rfl rfl rfl) (.inr hSS) (yl_fieldAddr hF rfl rfl (fun w => run_fa0 fo39_0)) ?_
              clear hF; intro a hF
              refine ha_l 9 hF rfl rfl rfl (wn_t hF rfl rfl rfl rfl) hSS (yl_loadAt hF rfl rfl ag3 (fun _ h => rd_cell0 (enc := enc39) (Sat.rdRo h 1 rfl) enc39_len hx146 rfl rfl)) ?_
              clear hF; intro a hF
              refine ha_l 11 hF rfl rfl rfl (wn_t hF rfl rfl rfl rfl) hSS (yl_load (fun _ h => h) hF rfl rfl 2 rfl ag3 rfl) ?_
              clear hF; intro a hF
              refine ha_y 12 hF rfl rfl rfl (wn_t hF rfl rfl rfl rfl) (.inr hSS) (yl_bin hF rfl rfl rfl rfl (fun _ => run_neq)) ?_
              clear hF; intro a hF
              refine ha_y 13 hF rfl rfl rfl (wn_none rfl) (.inr hSS) (yl_pick (u := _) (v := undef) hF rfl rfl (fun h => by cases h) (fun _ => rfl)) ?_
              clear hF; intro a hF
              refine ha_done (by kernel_rfl) ?_ _
              refine then_n ?_
              refine c_cond hF rfl (fun hc147 => ?_) (fun hc147 => ?_)
              · first | (replace hc147 := of_decide_eq_true hc147) | (replace hc147 := of_decide_eq_false (bnot_t hc147)) | (subst hc147) | (replace hc147 := bnot_t hc147; subst hc147) | (replace hc147 := bnot_t hc147) | skip
                try (have hc147x := hc147; simp only [okS, okI, okW, okP] at hc147x)
                refine ha_startS hS [2, 0, 3] 10 (by kernel_rfl) ?_; clear hS; intro w hS
                have hSS := hS.sub [2, 0, 3] (by decide) rfl (by simp)
                refine ha_y 0 hF rfl rfl rfl (wn_none rfl) (.inr hSS) (yl_fieldAddr hF rfl rfl (fun w => by kernel_rfl : ∀ w, (Instr.fieldAt 25 (.pointer (some ⟨g140, 0, none⟩)) 1).run Try.prog w = .ok (.pointer (some ⟨g140, 1, none⟩)) w)) ?_
                clear hF; intro a hF
                refine ha_y 2 hF rfl rfl rfl (wn_none rfl) (.inr hSS) (yl_fieldAddr hF rfl rfl (fun w => by kernel_rfl : ∀ w, (Instr.fieldAt 25 (.pointer (some ⟨g125, 0, none⟩)) 1).run Try.prog w = .ok (.pointer (some ⟨g125, 1, none⟩)) w)) ?_
                clear hF; intro a hF
                refine ha_y 4 hF rfl rfl rfl (wn_none rfl) (.inr hSS) (yl_move hF rfl rfl) ?_
                clear hF; intro a hF
                refine ha_l 1 hF rfl rfl rfl (wn_none rfl) hSS (yl_load (fun _ h => h) hF rfl rfl 0 rfl ag23 rfl) ?_
                clear hF; intro a hF
                refine ha_l 3 hF rfl rfl rfl (wn_none rfl) hSS (yl_load (fun _ h => h) hF rfl rfl 1 rfl ag23 rfl) ?_
                clear hF; intro a hF
                refine ha_y 5 hF rfl rfl rfl (wn_none rfl) (.inr hSS) (yl_indexAddr hF rfl rfl rfl (fun _ => run_idx' sl23 sz39 (hS.rdRo 3 rfl) hlt_hx146)) ?_
                clear hF; intro a hF
                refine ha_l 6 hF rfl rfl rfl (wn_none rfl) hSS (yl_loadEl (rs := [.int .i64 (x146.f0), .string x146.f1]) hF rfl rfl ag39 sz39 rfl (fun _ h => rd_cells (enc := enc39) (Sat.rdRo h 2 rfl) enc39_len hx146)) ?_
                clear hF; intro a hF
                refine ha_one 7 (by kernel_rfl) rfl (wn_none rfl) (wp_bslice (parts := [(0, .tmp 72)]) (vs := [(0, _)]) (enc := enc39) (e := 39) (size := 2) (cs := #[.int .i64 (x146.f0), .string x146.f1]) hF hS rfl rfl rfl rfl ([(E39.mk (x146.f0) x146.f1)] : List E39) (fun w => by kernel_rfl) rfl rfl rfl (by decide) ?_)
                clear hF hS; intro a w v148 hF hS
                obtain ⟨Av148, cv148, rfl⟩ := hS.form 0 rfl
                replace hSS := hS.sub [3, 1, 4] (by decide) rfl (by simp)
                refine ⟨.inr hSS, ?_⟩
                refine ha_one 8 (by kernel_rfl) rfl (wn_none rfl) (wp_app (enc := enc39) hF hS rfl rfl rfl rfl rfl 5 rfl sl23 inf39 rfl (by decide) (hS.rdRow 0 rfl) enc39_one (by decide) (by first | omega | (simp only [List.length_append, List.length_cons, List.length_nil]; omega) | (simp; omega)) ?_)
                clear hF hS; intro a w v149 hF hS
                obtain ⟨Av149, cv149, rfl⟩ := hS.form 5 rfl
                replace hSS := hS.sub [3, 1, 4] (by decide) rfl (by simp)
                refine ⟨.inr hSS, ?_⟩
                refine ha_y 9 hF rfl rfl rfl (wn_none rfl) (.inr hSS) (yl_fieldAddr hF rfl rfl (fun w => by kernel_rfl : ∀ w, (Instr.fieldAt 25 (.pointer (some ⟨g140, 0, none⟩)) 1).run Try.prog w = .ok (.pointer (some ⟨g140, 1, none⟩)) w)) ?_
                clear hF; intro a hF
                refine ha_one 10 (by kernel_rfl) rfl (wn_none rfl) (wp_store (cs' := #[_, _, _]) hF hS rfl rfl rfl rfl 3 rfl sz23 (by simp [Value.cells, Value.oneCell']) (by simp [Value.cells]) rfl ?_)
                clear hF hS; intro a w hF hS
                refine ⟨.inl (by kernel_rfl), ?_⟩
                refine ha_done (by kernel_rfl) ?_ _
                refine inb_n ?_
                refine then_n ?_
                refine c_region ?_
                refine seq_yl hF (wn_none rfl) rfl rfl (yl_move hF rfl rfl) ?_
                clear hF; intro a hF
                refine seq_yl hF (wn_none rfl) rfl rfl (yl_bin hF rfl rfl rfl rfl (fun _ => run_inc (by omega))) ?_
                clear hF; intro a hF
                refine seq_yl hF (wn_none rfl) rfl rfl (yl_assign hF rfl rfl) ?_
                clear hF; intro a hF
                refine wpList_nil ?_
                refine then_n ?_
                rw [selL_in (s := x133.f0) (old := (fun i => decide (i ≤ ((kk : Nat) : Int)))) hx146 (by first | exact .inl (by assumption) | exact .inr (decide_eq_false (by omega)))] at hS hF
                exact ⟨_, (by omega), k + 1, Av149, _, cv149, rfl, (show _ ≤ _ by omega), hF.to [1, 2, 4, 6, 9, 10] rfl, (hS.sub [1, 2, 3, 4, 5, 6] (by decide) (by first | rfl | simp) (by simp))⟩
              · first | (replace hc147 := of_decide_eq_false hc147) | (replace hc147 := of_decide_eq_true (bnot_f hc147)) | (subst hc147) | (replace hc147 := bnot_f hc147; subst hc147) | (replace hc147 := bnot_f hc147) | skip
                try (have hc147x := hc147; simp only [okS, okI, okW, okP] at hc147x)
                refine wp_skip ?_
                refine inb_n ?_
                refine then_n ?_
                refine c_region ?_
                refine seq_yl hF (wn_none rfl) rfl rfl (yl_move hF rfl rfl) ?_
                clear hF; intro a hF
                refine seq_yl hF (wn_none rfl) rfl rfl (yl_bin hF rfl rfl rfl rfl (fun _ => run_inc (by omega))) ?_
                clear hF; intro a hF
                refine seq_yl hF (wn_none rfl) rfl rfl (yl_assign hF rfl rfl) ?_
                clear hF; intro a hF
                refine wpList_nil ?_
                refine then_n ?_
                rw [selL_out (s := x133.f0) (old := (fun i => decide (i ≤ ((kk : Nat) : Int)))) hx146 (by omega) (decide_eq_true (by omega))] at hS
                exact ⟨_, (by omega), k + 1, AvR, _, cvR, rfl, (show _ ≤ _ by omega), hF.to [1, 2, 4, 6, 9, 10] rfl, (hS.sub [0, 1, 2, 3, 4, 5] (by decide) (by first | rfl | simp) (by simp))⟩
          · first | (replace hc141 := of_decide_eq_false hc141) | (replace hc141 := of_decide_eq_true (bnot_f hc141)) | (subst hc141) | (replace hc141 := bnot_f hc141; subst hc141) | (replace hc141 := bnot_f hc141) | skip
            try (have hc141x := hc141; simp only [okS, okI, okW, okP] at hc141x)
            refine wp_exit ?_
            refine then_x ?_
            refine then_x ?_
            refine inb_x ?_
            refine then_n ?_
            refine c_seq ?_
            refine c_region ?_
            refine seq_yl hF (wn_none rfl) rfl rfl (yl_loadK (rs := [_, _, _]) (fun _ h => h ▸ hS) hF rfl rfl 2 rfl ag25 sz25 rfl rfl) ?_
            clear hF; intro a hF
            refine seq_wp (wn_none rfl) (wp_store (cs' := #[_, _, _]) hF hS rfl rfl rfl rfl 5 rfl sz25 (by simp [Value.cells, Value.oneCell']) (by simp [Value.cells]) rfl ?_)
            clear hF hS; intro a w hF hS
            refine seq_yl hF (wn_none rfl) rfl rfl (yl_assign hF rfl rfl) ?_
            clear hF; intro a hF
            refine wpList_nil ?_
            refine then_n ?_
            refine wp_ret ?_
            refine ret_ct hF rfl (resC hS rfl 5 rfl ag25 sz25) rfl ?_
            rw [show L.take k = L from List.take_of_length_le (by omega)] at hS
            exact ⟨_, rfl, _, _, _, _, _, rfl, destF_at (‹okD st L rm› : okD st L rm) hx133, (hS.sub [4] (by decide) (by first | rfl | simp) (by simp))⟩

end Go.Proofs.Yteidhjdkaaddgaa

/- walks, printed by wip/gen -/
import Derived.Test.YtlhcpeolkkadbaaW2
namespace Go.Proofs.Ytlhcpeolkkadbaa
open Go.RowKit
set_option linter.unusedVariables false
set_option linter.unusedSimpArgs false

set_option maxRecDepth 100000 in
theorem without_any (lv : Value) (L : List E59) (s : Int) (w0 : World) (hv : Rd w0 2 lv (L).length (cells enc59 (L))) (hL : L.length ≤ 1000000) :
    Fn Try.prog 50 #[lv, .int .i64 s] w0 (fun v w' => ∃ v1, v = v1 ∧ Sat w0 w' [.row 59 2 v1 ((selL s (fun _ => true) 0 L)).length (cells enc59 ((selL s (fun _ => true) 0 L)))]) := by
  obtain ⟨Alv, clv, rfl⟩ := Rd.form hv
  refine c_enter (N := 28) (l := [_, _]) Try.func50 rfl rfl (fun a w hF hS => ?_)
  replace hS := hS.addRo hv
  refine c_seq ?_
  refine c_region ?_
  refine seq_yl hF (wn_none rfl) rfl rfl (yl_assign hF rfl rfl) ?_
  clear hF; intro a hF
  refine wpList_nil ?_
  refine then_n ?_
  refine c_seq ?_
  refine c_region ?_
  refine seq_yl hF (wn_none rfl) rfl rfl (yl_assign hF rfl rfl) ?_
  clear hF; intro a hF
  refine wpList_nil ?_
  refine then_n ?_
  refine c_seq ?_
  refine c_seq ?_
  refine c_region ?_
  refine seq_yl hF (wn_none rfl) rfl rfl (yl_assign hF rfl rfl) ?_
  clear hF; intro a hF
  refine wpList_nil ?_
  refine then_n ?_
  refine wp_block ?_
  replace hS := hS.addNil 59 2
  refine c_loop (fun m a w => ∃ (k : Nat) (AvR : Option Addr) (mv cvR : Nat), m = L.length - k ∧ (k ≤ L.length) ∧ Fr 28 a [(0, .slice Alv (L).length clv), (1, .int .i64 (s)), (5, .slice AvR mv cvR), (6, .int .i64 ((k : Nat) : Int))] ∧ Sat w0 w (.ro 2 (.slice Alv (L).length clv) (L).length (cells enc59 (L)) :: .row 59 2 (.slice AvR mv cvR) ((selL s (fun _ => true) 0 (L.take k))).length (cells enc59 ((selL s (fun _ => true) 0 (L.take k)))) :: [])) (L.length - 0) ?_ ?_
  · exact ⟨0, none, 0, 0, rfl, (Nat.zero_le _), hF.to [0, 1, 5, 6] rfl, (hS.sub [1, 0] (by decide) (by first | rfl | simp) (by simp))⟩
  · clear hF hS; try clear hSS
    clear a w; rintro m a w ⟨k, AvR, mv, cvR, rfl, hinv, hF, hS⟩
    have hk : k ≤ L.length := hinv
    have hvl := len_selL (s := s) (old := (fun _ => true)) (L.take k) 0
    have htl : (L.take k).length ≤ L.length := by simp; omega
    refine c_seq ?_
    refine c_seq ?_
    refine c_region ?_
    refine seq_yl hF (wn_none rfl) rfl rfl (yl_move hF rfl rfl) ?_
    clear hF; intro a hF
    refine seq_yl hF (wn_none rfl) rfl rfl (yl_move hF rfl rfl) ?_
    clear hF; intro a hF
    refine seq_yl hF (wn_none rfl) rfl rfl (yl_len hF rfl rfl (fun _ => run_lenRd sl22 (hS.rdRo 0 rfl))) ?_
    clear hF; intro a hF
    refine seq_yl hF (wn_none rfl) rfl rfl (yl_bin hF rfl rfl rfl rfl (fun _ => run_lss)) ?_
    clear hF; intro a hF
    refine wpList_nil ?_
    refine then_n ?_
    refine c_cond hF rfl (fun hc105 => ?_) (fun hc105 => ?_)
    · first | (replace hc105 := of_decide_eq_true hc105) | (replace hc105 := of_decide_eq_false (bnot_t hc105)) | (subst hc105) | (replace hc105 := bnot_t hc105; subst hc105) | (replace hc105 := bnot_t hc105) | skip
      try (have hc105x := hc105; simp only [okS, okI, okW, okP] at hc105x)
      refine wp_skip ?_
      refine then_n ?_
      refine c_seq ?_
      refine wp_block ?_
      refine c_seq ?_
      refine c_region ?_
      refine seq_yl hF (wn_none rfl) rfl rfl (yl_move hF rfl rfl) ?_
      clear hF; intro a hF
      refine seq_yl hF (wn_none rfl) rfl rfl (yl_move hF rfl rfl) ?_
      clear hF; intro a hF
      have hlt_hx106 : k < (L).length := by first | omega | (simp; done) | (simp; omega)
      obtain ⟨ad107, rfl⟩ := rd_some (hS.rdRo 0 rfl) hlt_hx106
      obtain ⟨x106, hx106⟩ := get_some hlt_hx106
      refine seq_yl hF (wn_none rfl) rfl rfl (yl_indexAddr hF rfl rfl rfl (fun _ => run_idx' sl22 sz59 (hS.rdRo 0 rfl) hlt_hx106)) ?_
      clear hF; intro a hF
      refine seq_yl hF (wn_none rfl) rfl rfl (yl_fieldAddr hF rfl rfl (fun w => run_fa0 fo59_0)) ?_
      clear hF; intro a hF
      refine seq_yl hF (wn_none rfl) rfl rfl (yl_loadAt hF rfl rfl ag3 (fun _ h => rd_cell0 (enc := enc59) (by subst h; exact hS.rdRo 0 rfl) enc59_len hx106 rfl rfl)) ?_
      clear hF; intro a hF
      refine seq_yl hF (wn_none rfl) rfl rfl (yl_move hF rfl rfl) ?_
      clear hF; intro a hF
      refine seq_yl hF (wn_none rfl) rfl rfl (yl_bin hF rfl rfl rfl rfl (fun _ => run_neq)) ?_
      clear hF; intro a hF
      refine wpList_nil ?_
      refine then_n ?_
      refine c_cond hF rfl (fun hc108 => ?_) (fun hc108 => ?_)
      · first | (replace hc108 := of_decide_eq_true hc108) | (replace hc108 := of_decide_eq_false (bnot_t hc108)) | (subst hc108) | (replace hc108 := bnot_t hc108; subst hc108) | (replace hc108 := bnot_t hc108) | skip
        try (have hc108x := hc108; simp only [okS, okI, okW, okP] at hc108x)
        refine c_region ?_
        refine seq_yl hF (wn_none rfl) rfl rfl (yl_move hF rfl rfl) ?_
        clear hF; intro a hF
        refine seq_yl hF (wn_none rfl) rfl rfl (yl_move hF rfl rfl) ?_
        clear hF; intro a hF
        refine seq_yl hF (wn_none rfl) rfl rfl (yl_move hF rfl rfl) ?_
        clear hF; intro a hF
        refine seq_yl hF (wn_none rfl) rfl rfl (yl_indexAddr hF rfl rfl rfl (fun _ => run_idx' sl22 sz59 (hS.rdRo 0 rfl) hlt_hx106)) ?_
        clear hF; intro a hF
        refine seq_yl hF (wn_none rfl) rfl rfl (yl_loadEl (rs := [.int .i64 (x106.f0), .string x106.f1]) hF rfl rfl ag59 sz59 rfl (fun _ h => rd_cells (enc := enc59) (by subst h; exact hS.rdRo 0 rfl) enc59_len hx106)) ?_
        clear hF; intro a hF
        refine seq_wp (wn_none rfl) (wp_bslice (parts := [(0, .tmp 24)]) (vs := [(0, _)]) (enc := enc59) (e := 59) (size := 2) (cs := #[.int .i64 (x106.f0), .string x106.f1]) hF hS rfl rfl rfl rfl ([(E59.mk (x106.f0) x106.f1)] : List E59) (fun w => by kernel_rfl) rfl rfl rfl (by decide) ?_)
        clear hF hS; intro a w v109 hF hS
        obtain ⟨Av109, cv109, rfl⟩ := hS.form 0 rfl
        refine seq_wp (wn_none rfl) (wp_app (enc := enc59) hF hS rfl rfl rfl rfl rfl 2 rfl sl22 inf59 rfl (by decide) (hS.rdRow 0 rfl) enc59_one (by decide) (by first | omega | (simp only [List.length_append, List.length_cons, List.length_nil]; omega) | (simp; omega)) ?_)
        clear hF hS; intro a w v110 hF hS
        obtain ⟨Av110, cv110, rfl⟩ := hS.form 2 rfl
        refine seq_yl hF (wn_none rfl) rfl rfl (yl_assign hF rfl rfl) ?_
        clear hF; intro a hF
        refine wpList_nil ?_
        refine inb_n ?_
        refine then_n ?_
        refine c_region ?_
        refine seq_yl hF (wn_none rfl) rfl rfl (yl_move hF rfl rfl) ?_
        clear hF; intro a hF
        refine seq_yl hF (wn_none rfl) rfl rfl (yl_bin hF rfl rfl rfl rfl (fun _ => run_inc (by omega))) ?_
        clear hF; intro a hF
        refine seq_yl hF (wn_none rfl) rfl rfl (yl_assign hF rfl rfl) ?_
        clear hF; intro a hF
        refine wpList_nil ?_
        refine then_n ?_
        rw [selL_in (s := s) (old := (fun _ => true)) hx106 (.inl (by assumption))] at hS hF
        exact ⟨_, (by omega), k + 1, Av110, _, cv110, rfl, (show _ ≤ _ by omega), hF.to [0, 1, 5, 6] rfl, (hS.sub [1, 2] (by decide) (by first | rfl | simp) (by simp))⟩
      · first | (replace hc108 := of_decide_eq_false hc108) | (replace hc108 := of_decide_eq_true (bnot_f hc108)) | (subst hc108) | (replace hc108 := bnot_f hc108; subst hc108) | (replace hc108 := bnot_f hc108) | skip
        try (have hc108x := hc108; simp only [okS, okI, okW, okP] at hc108x)
        refine wp_skip ?_
        refine inb_n ?_
        refine then_n ?_
        refine c_region ?_
        refine seq_yl hF (wn_none rfl) rfl rfl (yl_move hF rfl rfl) ?_
        clear hF; intro a hF
        refine seq_yl hF (wn_none rfl) rfl rfl (yl_bin hF rfl rfl rfl rfl (fun _ => run_inc (by omega))) ?_
        clear hF; intro a hF
        refine seq_yl hF (wn_none rfl) rfl rfl (yl_assign hF rfl rfl) ?_
        clear hF; intro a hF
        refine wpList_nil ?_
        refine then_n ?_
        rw [selL_out (s := s) (old := (fun _ => true)) hx106 (by omega) (rfl)] at hS
        exact ⟨_, (by omega), k + 1, AvR, _, cvR, rfl, (show _ ≤ _ by omega), hF.to [0, 1, 5, 6] rfl, (hS.sub [0, 1] (by decide) (by first | rfl | simp) (by simp))⟩
    · first | (replace hc105 := of_decide_eq_false hc105) | (replace hc105 := of_decide_eq_true (bnot_f hc105)) | (subst hc105) | (replace hc105 := bnot_f hc105; subst hc105) | (replace hc105 := bnot_f hc105) | skip
      try (have hc105x := hc105; simp only [okS, okI, okW, okP] at hc105x)
      refine wp_exit ?_
      refine then_x ?_
      refine then_x ?_
      refine inb_x ?_
      refine then_n ?_
      refine c_seq ?_
      refine c_region ?_
      refine seq_yl hF (wn_none rfl) rfl rfl (yl_move hF rfl rfl) ?_
      clear hF; intro a hF
      refine seq_yl hF (wn_none rfl) rfl rfl (yl_assign hF rfl rfl) ?_
      clear hF; intro a hF
      refine wpList_nil ?_
      refine then_n ?_
      refine wp_ret ?_
      refine ret_t hF rfl rfl ?_
      rw [show L.take k = L from List.take_of_length_le (by omega)] at hS; exact ⟨_, rfl, _, rfl, (hS.sub [1] (by decide) (by first | rfl | simp) (by simp))⟩

set_option maxHeartbeats 1000000 in
set_option maxRecDepth 100000 in
theorem dest2_any (st : ByteArray) (lv : Value) (L : List E59) (rm : Int) (q : Int) (w0 : World) (hv : Rd w0 2 lv (L).length (cells enc59 (L))) (hz : (st.size : Int) ≤ 9223372036854775807) (hL : L.length ≤ 1000000) :
    Fn Try.prog 32 #[.agg #[.string st, lv, .int .i64 rm], .int .i64 q] w0 (fun v w' => ∃ (st1 : ByteArray) (lv1 : Value) (L1 : List E59) (rm1 : Int) (b : Bool), v = .tuple #[.agg #[.string st1, lv1, .int .i64 rm1], .bool b] ∧ destF st L rm q = (st1, L1, rm1, b) ∧ Sat w0 w' [.row 59 2 lv1 (L1).length (cells enc59 (L1))]) := by
  obtain ⟨Alv, clv, rfl⟩ := Rd.form hv
  refine c_enter (N := 77) (l := [_, _]) Try.func32 rfl rfl (fun a w hF hS => ?_)
  replace hS := hS.addRo hv
  refine c_seq ?_
  refine c_region ?_
  refine seq_wp (wn_none rfl) (wp_box (cs := #[_, _, _]) hF hS rfl rfl rfl rfl rfl ?_)
  clear hF hS; intro a w g111 hF hS
  refine seq_wp (wn_none rfl) (wp_alloc (cs := #[_, _, _]) hF hS rfl rfl rfl zr24 rfl ?_)
  clear hF hS; intro a w g112 hF hS
  refine seq_yl hF (wn_none rfl) rfl rfl (yl_assign hF rfl rfl) ?_
  clear hF; intro a hF
  refine wpList_nil ?_
  refine then_n ?_
  refine c_seq ?_
  refine c_seq ?_
  refine c_region ?_
  refine seq_yl hF (wn_none rfl) rfl rfl (yl_loadK (rs := [_, _, _]) (fun _ h => h ▸ hS) hF rfl rfl 1 rfl ag24 sz24 rfl rfl) ?_
  clear hF; intro a hF
  refine seq_wp (wn_none rfl) (wp_call (vs := [_]) hF rfl rfl rfl rfl cf49 (dValid2_any st _ L (rm) _ (hS.rdRo 2 rfl) (by first | omega | (simp; done)) (by first | omega | (simp; done))) ?_)
  clear hF; rintro _ w ⟨rfl, hS1⟩ a hF
  replace hS := hS.callB hS1 rfl; clear hS1
  refine seq_yl hF (wn_none rfl) rfl rfl (yl_un hF rfl rfl (fun _ => run_not)) ?_
  clear hF; intro a hF
  refine seq_yl hF (wn_none rfl) rfl rfl (yl_move hF rfl rfl) ?_
  clear hF; intro a hF
  refine fr_split hF (fun hc113 hF => ?_) (fun hc113 hF => ?_)
  · first | (replace hc113 := of_decide_eq_true hc113) | (replace hc113 := of_decide_eq_false (bnot_t hc113)) | (subst hc113) | (replace hc113 := bnot_t hc113; subst hc113) | (replace hc113 := bnot_t hc113) | skip
    try (have hc113x := hc113; simp only [okS, okI, okW, okP] at hc113x)
    refine seq_skip hF (wn_f hF rfl rfl rfl rfl) rfl rfl ?_
    clear hF; intro a hF
    refine seq_skip hF (wn_f hF rfl rfl rfl rfl) rfl rfl ?_
    clear hF; intro a hF
    refine seq_yl hF (wn_none rfl) rfl rfl (yl_pick (u := _) (v := undef) hF rfl rfl (fun _ => rfl) (fun h => by cases h)) ?_
    clear hF; intro a hF
    refine seq_yl hF (wn_none rfl) rfl rfl (yl_move hF rfl rfl) ?_
    clear hF; intro a hF
    refine seq_skip hF (wn_f hF rfl rfl rfl rfl) rfl rfl ?_
    clear hF; intro a hF
    refine seq_skip hF (wn_f hF rfl rfl rfl rfl) rfl rfl ?_
    clear hF; intro a hF
    refine seq_skip hF (wn_f hF rfl rfl rfl rfl) rfl rfl ?_
    clear hF; intro a hF
    refine seq_skip hF (wn_f hF rfl rfl rfl rfl) rfl rfl ?_
    clear hF; intro a hF
    refine seq_skip hF (wn_f hF rfl rfl rfl rfl) rfl rfl ?_
    clear hF; intro a hF
    refine seq_yl hF (wn_none rfl) rfl rfl (yl_pick (u := _) (v := undef) hF rfl rfl (fun _ => rfl) (fun h => by cases h)) ?_
    clear hF; intro a hF
    refine wpList_nil ?_
    refine then_n ?_
    refine c_cond_t hF rfl ?_
    refine c_seq ?_
    refine c_region ?_
    refine seq_yl hF (wn_none rfl) rfl rfl (yl_build (parts := []) (vs := []) (cs := [_, _, _]) hF bd24 rfl rfl rfl rfl) ?_
    clear hF; intro a hF
    refine seq_wp (wn_none rfl) (wp_store (cs' := #[_, _, _]) hF hS rfl rfl rfl rfl 0 rfl sz24 (by simp [Value.cells, Value.oneCell']) (by simp [Value.cells]) rfl ?_)
    clear hF hS; intro a w hF hS
    refine seq_yl hF (wn_none rfl) rfl rfl (yl_assign hF rfl rfl) ?_
    clear hF; intro a hF
    refine wpList_nil ?_
    refine then_n ?_
    refine wp_ret ?_
    refine then_r ?_
    refine ret_ct hF rfl (resC hS rfl 0 rfl ag24 sz24) rfl ?_
    replace hS := hS.addNil 59 2
    exact ⟨_, rfl, _, _, [], _, _, rfl, ds_bad (fun h9 => by have h8 := h9.2; first | exact absurd h9.1 (by assumption) | omega), (hS.sub [0] (by decide) (by first | rfl | simp) (by simp))⟩
  · first | (replace hc113 := of_decide_eq_false hc113) | (replace hc113 := of_decide_eq_true (bnot_f hc113)) | (subst hc113) | (replace hc113 := bnot_f hc113; subst hc113) | (replace hc113 := bnot_f hc113) | skip
    try (have hc113x := hc113; simp only [okS, okI, okW, okP] at hc113x)
    refine seq_yl hF (wn_t hF rfl rfl rfl rfl) rfl rfl (yl_move hF rfl rfl) ?_
    clear hF; intro a hF
    refine seq_yl hF (wn_t hF rfl rfl rfl rfl) rfl rfl (yl_bin hF rfl rfl rfl rfl (fun _ => run_lss)) ?_
    clear hF; intro a hF
    refine seq_yl hF (wn_none rfl) rfl rfl (yl_pick (u := _) (v := undef) hF rfl rfl (fun h => by cases h) (fun _ => rfl)) ?_
    clear hF; intro a hF
    refine seq_yl hF (wn_none rfl) rfl rfl (yl_move hF rfl rfl) ?_
    clear hF; intro a hF
    refine fr_split hF (fun hc115 hF => ?_) (fun hc115 hF => ?_)
    · first | (replace hc115 := of_decide_eq_true hc115) | (replace hc115 := of_decide_eq_false (bnot_t hc115)) | (subst hc115) | (replace hc115 := bnot_t hc115; subst hc115) | (replace hc115 := bnot_t hc115) | skip
      try (have hc115x := hc115; simp only [okS, okI, okW, okP] at hc115x)
      refine seq_skip hF (wn_f hF rfl rfl rfl rfl) rfl rfl ?_
      clear hF; intro a hF
      refine seq_skip hF (wn_f hF rfl rfl rfl rfl) rfl rfl ?_
      clear hF; intro a hF
      refine seq_skip hF (wn_f hF rfl rfl rfl rfl) rfl rfl ?_
      clear hF; intro a hF
      refine seq_skip hF (wn_f hF rfl rfl rfl rfl) rfl rfl ?_
      clear hF; intro a hF
      refine seq_skip hF (wn_f hF rfl rfl rfl rfl) rfl rfl ?_
      clear hF; intro a hF
      refine seq_yl hF (wn_none rfl) rfl rfl (yl_pick (u := _) (v := undef) hF rfl rfl (fun _ => rfl) (fun h => by cases h)) ?_
      clear hF; intro a hF
      refine wpList_nil ?_
      refine then_n ?_
      refine c_cond_t hF rfl ?_
      refine c_seq ?_
      refine c_region ?_
      refine seq_yl hF (wn_none rfl) rfl rfl (yl_build (parts := []) (vs := []) (cs := [_, _, _]) hF bd24 rfl rfl rfl rfl) ?_
      clear hF; intro a hF
      refine seq_wp (wn_none rfl) (wp_store (cs' := #[_, _, _]) hF hS rfl rfl rfl rfl 0 rfl sz24 (by simp [Value.cells, Value.oneCell']) (by simp [Value.cells]) rfl ?_)
      clear hF hS; intro a w hF hS
      refine seq_yl hF (wn_none rfl) rfl rfl (yl_assign hF rfl rfl) ?_
      clear hF; intro a hF
      refine wpList_nil ?_
      refine then_n ?_
      refine wp_ret ?_
      refine then_r ?_
      refine ret_ct hF rfl (resC hS rfl 0 rfl ag24 sz24) rfl ?_
      replace hS := hS.addNil 59 2
      exact ⟨_, rfl, _, _, [], _, _, rfl, ds_bad (fun h9 => by have h8 := h9.2; first | exact absurd h9.1 (by assumption) | omega), (hS.sub [0] (by decide) (by first | rfl | simp) (by simp))⟩
    · first | (replace hc115 := of_decide_eq_false hc115) | (replace hc115 := of_decide_eq_true (bnot_f hc115)) | (subst hc115) | (replace hc115 := bnot_f hc115; subst hc115) | (replace hc115 := bnot_f hc115) | skip
      try (have hc115x := hc115; simp only [okS, okI, okW, okP] at hc115x)
      refine seq_yl hF (wn_t hF rfl rfl rfl rfl) rfl rfl (yl_move hF rfl rfl) ?_
      clear hF; intro a hF
      refine seq_yl hF (wn_t hF rfl rfl rfl rfl) rfl rfl (yl_fieldAddr hF rfl rfl (fun w => by kernel_rfl : ∀ w, (Instr.fieldAt 24 (.pointer (some ⟨g111, 0, none⟩)) 1).run Try.prog w = .ok (.pointer (some ⟨g111, 1, none⟩)) w)) ?_
      clear hF; intro a hF
      refine seq_yl hF (wn_t hF rfl rfl rfl rfl) rfl rfl (yl_load (fun _ h => h ▸ hS) hF rfl rfl 1 rfl ag22 rfl) ?_
      clear hF; intro a hF
      refine seq_yl hF (wn_t hF rfl rfl rfl rfl) rfl rfl (yl_len hF rfl rfl (fun _ => run_lenRd sl22 (hS.rdRo 2 rfl))) ?_
      clear hF; intro a hF
      refine seq_yl hF (wn_t hF rfl rfl rfl rfl) rfl rfl (yl_bin hF rfl rfl rfl rfl (fun _ => run_geq)) ?_
      clear hF; intro a hF
      refine seq_yl hF (wn_none rfl) rfl rfl (yl_pick (u := _) (v := undef) hF rfl rfl (fun h => by cases h) (fun _ => rfl)) ?_
      clear hF; intro a hF
      refine wpList_nil ?_
      refine then_n ?_
      refine c_cond hF rfl (fun hc117 => ?_) (fun hc117 => ?_)
      · first | (replace hc117 := of_decide_eq_true hc117) | (replace hc117 := of_decide_eq_false (bnot_t hc117)) | (subst hc117) | (replace hc117 := bnot_t hc117; subst hc117) | (replace hc117 := bnot_t hc117) | skip
        try (have hc117x := hc117; simp only [okS, okI, okW, okP] at hc117x)
        refine c_seq ?_
        refine c_region ?_
        refine seq_yl hF (wn_none rfl) rfl rfl (yl_build (parts := []) (vs := []) (cs := [_, _, _]) hF bd24 rfl rfl rfl rfl) ?_
        clear hF; intro a hF
        refine seq_wp (wn_none rfl) (wp_store (cs' := #[_, _, _]) hF hS rfl rfl rfl rfl 0 rfl sz24 (by simp [Value.cells, Value.oneCell']) (by simp [Value.cells]) rfl ?_)
        clear hF hS; intro a w hF hS
        refine seq_yl hF (wn_none rfl) rfl rfl (yl_assign hF rfl rfl) ?_
        clear hF; intro a hF
        refine wpList_nil ?_
        refine then_n ?_
        refine wp_ret ?_
        refine then_r ?_
        refine ret_ct hF rfl (resC hS rfl 0 rfl ag24 sz24) rfl ?_
        replace hS := hS.addNil 59 2
        exact ⟨_, rfl, _, _, [], _, _, rfl, ds_bad (fun h9 => by have h8 := h9.2; first | exact absurd h9.1 (by assumption) | omega), (hS.sub [0] (by decide) (by first | rfl | simp) (by simp))⟩
      · first | (replace hc117 := of_decide_eq_false hc117) | (replace hc117 := of_decide_eq_true (bnot_f hc117)) | (subst hc117) | (replace hc117 := bnot_f hc117; subst hc117) | (replace hc117 := bnot_f hc117) | skip
        try (have hc117x := hc117; simp only [okS, okI, okW, okP] at hc117x)
        refine wp_skip ?_
        refine then_n ?_
        refine c_seq ?_
        refine c_region ?_
        obtain ⟨kk, rfl⟩ : ∃ n : Nat, q = (n : Int) := ⟨q.toNat, by omega⟩
        refine seq_yl hF (wn_none rfl) rfl rfl (yl_fieldAddr hF rfl rfl (fun w => by kernel_rfl : ∀ w, (Instr.fieldAt 24 (.pointer (some ⟨g111, 0, none⟩)) 1).run Try.prog w = .ok (.pointer (some ⟨g111, 1, none⟩)) w)) ?_
        clear hF; intro a hF
        refine seq_yl hF (wn_none rfl) rfl rfl (yl_load (fun _ h => h ▸ hS) hF rfl rfl 1 rfl ag22 rfl) ?_
        clear hF; intro a hF
        refine seq_yl hF (wn_none rfl) rfl rfl (yl_move hF rfl rfl) ?_
        clear hF; intro a hF
        have hlt_hx119 : kk < (L).length := by first | omega | (simp; done) | (simp; omega)
        obtain ⟨ad120, rfl⟩ := rd_some (hS.rdRo 2 rfl) hlt_hx119
        obtain ⟨x119, hx119⟩ := get_some hlt_hx119
        refine seq_yl hF (wn_none rfl) rfl rfl (yl_indexAddr hF rfl rfl rfl (fun _ => run_idx' sl22 sz59 (hS.rdRo 2 rfl) hlt_hx119)) ?_
        clear hF; intro a hF
        refine seq_yl hF (wn_none rfl) rfl rfl (yl_loadEl (rs := [.int .i64 (x119.f0), .string x119.f1]) hF rfl rfl ag59 sz59 rfl (fun _ h => rd_cells (enc := enc59) (by subst h; exact hS.rdRo 2 rfl) enc59_len hx119)) ?_
        clear hF; intro a hF
        refine seq_wp (wn_none rfl) (wp_alloc (cs := #[_, _]) hF hS rfl rfl rfl zr59 rfl ?_)
        clear hF hS; intro a w g121 hF hS
        refine seq_wp (wn_none rfl) (wp_store (cs' := #[_, _]) hF hS rfl rfl rfl rfl 0 rfl sz59 (by simp [Value.cells, Value.oneCell']) (by simp [Value.cells]) rfl ?_)
        clear hF hS; intro a w hF hS
        refine wpList_nil ?_
        refine then_n ?_
        refine c_seq ?_
        refine c_region ?_
        refine seq_yl hF (wn_none rfl) rfl rfl (yl_fieldAddr hF rfl rfl (fun w => by kernel_rfl : ∀ w, (Instr.fieldAt 24 (.pointer (some ⟨g111, 0, none⟩)) 0).run Try.prog w = .ok (.pointer (some ⟨g111, 0, none⟩)) w)) ?_
        clear hF; intro a hF
        refine seq_yl hF (wn_none rfl) rfl rfl (yl_load (fun _ h => h ▸ hS) hF rfl rfl 2 rfl ag9 rfl) ?_
        clear hF; intro a hF
        refine seq_yl hF (wn_none rfl) rfl rfl (yl_fieldAddr hF rfl rfl (fun w => by kernel_rfl : ∀ w, (Instr.fieldAt 59 (.pointer (some ⟨g121, 0, none⟩)) 0).run Try.prog w = .ok (.pointer (some ⟨g121, 0, none⟩)) w)) ?_
        clear hF; intro a hF
        refine seq_yl hF (wn_none rfl) rfl rfl (yl_load (fun _ h => h ▸ hS) hF rfl rfl 0 rfl ag3 rfl) ?_
        clear hF; intro a hF
        refine seq_yl hF (wn_none rfl) rfl rfl (yl_fieldAddr hF rfl rfl (fun w => by kernel_rfl : ∀ w, (Instr.fieldAt 59 (.pointer (some ⟨g121, 0, none⟩)) 1).run Try.prog w = .ok (.pointer (some ⟨g121, 1, none⟩)) w)) ?_
        clear hF; intro a hF
        refine seq_yl hF (wn_none rfl) rfl rfl (yl_load (fun _ h => h ▸ hS) hF rfl rfl 0 rfl ag9 rfl) ?_
        clear hF; intro a hF
        have hpz := ((‹okD st L rm› : okD st L rm).2.2.2 _ (List.mem_of_getElem? hx119)).2
        refine seq_wp (wn_none rfl) (wp_call (vs := [_, _, _]) hF rfl rfl rfl rfl cf23 (imWrite2_any st (x119.f0) x119.f1 _ (by omega) (by omega)) ?_)
        clear hF; rintro _ w ⟨xs122, e123, rfl, hsp124, hS1⟩ a hF
        replace hS := hS.callB hS1 rfl; clear hS1
        have hsp124z := fun h9 : okW ((st).size : Int) (x119.f0) ((x119.f1).size : Int) => wim_size (im := st) (s := (x119.f0)) (x := x119.f1) h9
        obtain ⟨hk125, rfl, rfl⟩ := hsp124.resolve_right (fun h9 => h9.1 (okP_W ((‹okD st L rm› : okD st L rm).2.2.2 _ (List.mem_of_getElem? hx119))))
        try (have hk125x := hk125; simp only [okS, okI, okW, okP] at hk125x)
        refine seq_yl hF (wn_none rfl) rfl rfl (yl_move hF rfl rfl) ?_
        clear hF; intro a hF
        refine seq_yl hF (wn_none rfl) rfl rfl (yl_extract hF rfl rfl rfl) ?_
        clear hF; intro a hF
        refine seq_yl hF (wn_none rfl) rfl rfl (yl_extract hF rfl rfl rfl) ?_
        clear hF; intro a hF
        refine seq_yl hF (wn_none rfl) rfl rfl (yl_assign hF rfl rfl) ?_
        clear hF; intro a hF
        refine seq_yl hF (wn_none rfl) rfl rfl (yl_assign hF rfl rfl) ?_
        clear hF; intro a hF
        refine wpList_nil ?_
        refine then_n ?_
        refine c_seq ?_
        refine c_region ?_
        refine seq_yl hF (wn_none rfl) rfl rfl (yl_move hF rfl rfl) ?_
        clear hF; intro a hF
        refine seq_yl hF (wn_none rfl) rfl rfl (yl_fieldAddr hF rfl rfl (fun w => by kernel_rfl : ∀ w, (Instr.fieldAt 24 (.pointer (some ⟨g111, 0, none⟩)) 2).run Try.prog w = .ok (.pointer (some ⟨g111, 2, none⟩)) w)) ?_
        clear hF; intro a hF
        refine seq_yl hF (wn_none rfl) rfl rfl (yl_load (fun _ h => h ▸ hS) hF rfl rfl 2 rfl ag3 rfl) ?_
        clear hF; intro a hF
        refine seq_yl hF (wn_none rfl) rfl rfl (yl_build (parts := [(0, .tmp 41), (2, .tmp 43)]) (vs := [(0, _), (2, _)]) (cs := [_, _, _]) hF bd24 rfl rfl rfl rfl) ?_
        clear hF; intro a hF
        refine seq_wp (wn_none rfl) (wp_alloc (cs := #[_, _, _]) hF hS rfl rfl rfl zr24 rfl ?_)
        clear hF hS; intro a w g126 hF hS
        refine seq_wp (wn_none rfl) (wp_store (cs' := #[_, _, _]) hF hS rfl rfl rfl rfl 0 rfl sz24 (by simp [Value.cells, Value.oneCell']) (by simp [Value.cells]) rfl ?_)
        clear hF hS; intro a w hF hS
        refine wpList_nil ?_
        refine then_n ?_
        refine c_seq ?_
        refine c_seq ?_
        refine c_region ?_
        refine seq_yl hF (wn_none rfl) rfl rfl (yl_assign hF rfl rfl) ?_
        clear hF; intro a hF
        refine wpList_nil ?_
        refine then_n ?_
        refine wp_block ?_
        replace hS := hS.addNil 59 2
        refine c_loop (fun m a w => ∃ (k : Nat) (AvR : Option Addr) (mv cvR : Nat), m = L.length - k ∧ (k ≤ L.length) ∧ Fr 77 a [(1, .int .i64 ((kk : Nat) : Int)), (2, .pointer (some ⟨g111, 0, none⟩)), (4, .pointer (some ⟨g112, 0, none⟩)), (6, .pointer (some ⟨g121, 0, none⟩)), (9, .pointer (some ⟨g126, 0, none⟩)), (10, .int .i64 ((k : Nat) : Int))] ∧ Sat w0 w (.box g111 24 #[.string st, .slice (some ad120) (L).length clv, .int .i64 (rm)] :: .box g121 59 #[.int .i64 (x119.f0), .string x119.f1] :: .box g126 24 #[.string (wim st (x119.f0) x119.f1), .slice AvR mv cvR, .int .i64 (rm)] :: .ro 2 (.slice (some ad120) (L).length clv) (L).length (cells enc59 (L)) :: .row 59 2 (.slice AvR mv cvR) ((selL x119.f0 (fun i => decide (i ≤ ((kk : Nat) : Int))) 0 (L.take k))).length (cells enc59 ((selL x119.f0 (fun i => decide (i ≤ ((kk : Nat) : Int))) 0 (L.take k)))) :: .box g112 24 #[.string (⟨#[]⟩ : ByteArray), .slice none 0 0, .int .i64 (0 : Int)] :: [])) (L.length - 0) ?_ ?_
        · exact ⟨0, none, 0, 0, rfl, (Nat.zero_le _), hF.to [1, 2, 4, 6, 9, 10] rfl, (hS.sub [4, 2, 1, 5, 0, 3] (by decide) (by first | rfl | simp) (by simp))⟩
        · clear hF hS; try clear hSS
          clear a w; rintro m a w ⟨k, AvR, mv, cvR, rfl, hinv, hF, hS⟩
          have hk : k ≤ L.length := hinv
          have hvl := len_selL (s := x119.f0) (old := (fun i => decide (i ≤ ((kk : Nat) : Int)))) (L.take k) 0
          have htl : (L.take k).length ≤ L.length := by simp; omega
          refine c_seq ?_
          refine c_seq ?_
          refine c_region ?_
          refine seq_yl hF (wn_none rfl) rfl rfl (yl_move hF rfl rfl) ?_
          clear hF; intro a hF
          refine seq_yl hF (wn_none rfl) rfl rfl (yl_fieldAddr hF rfl rfl (fun w => by kernel_rfl : ∀ w, (Instr.fieldAt 24 (.pointer (some ⟨g111, 0, none⟩)) 1).run Try.prog w = .ok (.pointer (some ⟨g111, 1, none⟩)) w)) ?_
          clear hF; intro a hF
          refine seq_yl hF (wn_none rfl) rfl rfl (yl_load (fun _ h => h ▸ hS) hF rfl rfl 0 rfl ag22 rfl) ?_
          clear hF; intro a hF
          refine seq_yl hF (wn_none rfl) rfl rfl (yl_len hF rfl rfl (fun _ => run_lenRd sl22 (hS.rdRo 3 rfl))) ?_
          clear hF; intro a hF
          refine seq_yl hF (wn_none rfl) rfl rfl (yl_bin hF rfl rfl rfl rfl (fun _ => run_lss)) ?_
          clear hF; intro a hF
          refine wpList_nil ?_
          refine then_n ?_
          refine c_cond hF rfl (fun hc127 => ?_) (fun hc127 => ?_)
          · first | (replace hc127 := of_decide_eq_true hc127) | (replace hc127 := of_decide_eq_false (bnot_t hc127)) | (subst hc127) | (replace hc127 := bnot_t hc127; subst hc127) | (replace hc127 := bnot_t hc127) | skip
            try (have hc127x := hc127; simp only [okS, okI, okW, okP] at hc127x)
            refine wp_skip ?_
            refine then_n ?_
            refine c_seq ?_
            refine wp_block ?_
            refine c_seq ?_
            refine ha_startS hS [0, 3, 1] 14 (by kernel_rfl) ?_; clear hS; intro w hS
            have hSS := hS.sub [0, 3, 1] (by decide) rfl (by simp)
            refine ha_y 0 hF rfl rfl rfl (wn_none rfl) (.inr hSS) (yl_move hF rfl rfl) ?_
            clear hF; intro a hF
            refine ha_y 1 hF rfl rfl rfl (wn_none rfl) (.inr hSS) (yl_move hF rfl rfl) ?_
            clear hF; intro a hF
            refine ha_y 2 hF rfl rfl rfl (wn_none rfl) (.inr hSS) (yl_bin hF rfl rfl rfl rfl (fun _ => run_gtr)) ?_
            clear hF; intro a hF
            refine ha_y 3 hF rfl rfl rfl (wn_none rfl) (.inr hSS) (yl_move hF rfl rfl) ?_
            clear hF; intro a hF
            refine fr_split hF (fun hc128 hF => ?_) (fun hc128 hF => ?_)
            · first | (replace hc128 := of_decide_eq_true hc128) | (replace hc128 := of_decide_eq_false (bnot_t hc128)) | (subst hc128) | (replace hc128 := bnot_t hc128; subst hc128) | (replace hc128 := bnot_t hc128) | skip
              try (have hc128x := hc128; simp only [okS, okI, okW, okP] at hc128x)
              refine ha_s 4 hF rfl rfl rfl (wn_f hF rfl rfl rfl rfl) (.inr hSS) ?_
              clear hF; intro a hF
              refine ha_s 5 hF rfl rfl rfl (wn_f hF rfl rfl rfl rfl) (.inr hSS) ?_
              clear hF; intro a hF
              refine ha_s 6 hF rfl rfl rfl (wn_f hF rfl rfl rfl rfl) (.inr hSS) ?_
              clear hF; intro a hF
              refine ha_s 7 hF rfl rfl rfl (wn_f hF rfl rfl rfl rfl) (.inr hSS) ?_
              clear hF; intro a hF
              refine ha_s 8 hF rfl rfl rfl (wn_f hF rfl rfl rfl rfl) (.inr hSS) ?_
              clear hF; intro a hF
              refine ha_s 9 hF rfl rfl rfl (wn_f hF rfl rfl rfl rfl) (.inr hSS) ?_
              clear hF; intro a hF
              refine ha_s 10 hF rfl rfl rfl (wn_f hF rfl rfl rfl rfl) (.inr hSS) ?_
              clear hF; intro a hF
              refine ha_s 11 hF rfl rfl rfl (wn_f hF rfl rfl rfl rfl) (.inr hSS) ?_
              clear hF; intro a hF
              refine ha_s 12 hF rfl rfl rfl (wn_f hF rfl rfl rfl rfl) (.inr hSS) ?_
              clear hF; intro a hF
              refine ha_y 13 hF rfl rfl rfl (wn_none rfl) (.inr hSS) (yl_pick (u := _) (v := undef) hF rfl rfl (fun _ => rfl) (fun h => by cases h)) ?_
              clear hF; intro a hF
              refine ha_done (by kernel_rfl) ?_ _
              refine then_n ?_
              refine c_cond_t hF rfl ?_
              refine ha_startS hS [2, 0, 3] 10 (by kernel_rfl) ?_; clear hS; intro w hS
              have hSS := hS.sub [2, 0, 3] (by decide) rfl (by simp)
              refine ha_y 0 hF rfl rfl rfl (wn_none rfl) (.inr hSS) (yl_fieldAddr hF rfl rfl (fun w => by kernel_rfl : ∀ w, (Instr.fieldAt 24 (.pointer (some ⟨g126, 0, none⟩)) 1).run Try.prog w = .ok (.pointer (some ⟨g126, 1, none⟩)) w)) ?_
              clear hF; intro a hF
              refine ha_y 2 hF rfl rfl rfl (wn_none rfl) (.inr hSS) (yl_fieldAddr hF rfl rfl (fun w => by kernel_rfl : ∀ w, (Instr.fieldAt 24 (.pointer (some ⟨g111, 0, none⟩)) 1).run Try.prog w = .ok (.pointer (some ⟨g111, 1, none⟩)) w)) ?_
              clear hF; intro a hF
              refine ha_y 4 hF rfl rfl rfl (wn_none rfl) (.inr hSS) (yl_move hF rfl rfl) ?_
              clear hF; intro a hF
              refine ha_l 1 hF rfl rfl rfl (wn_none rfl) hSS (yl_load (fun _ h => h) hF rfl rfl 0 rfl ag22 rfl) ?_
              clear hF; intro a hF
              refine ha_l 3 hF rfl rfl rfl (wn_none rfl) hSS (yl_load (fun _ h => h) hF rfl rfl 1 rfl ag22 rfl) ?_
              clear hF; intro a hF
              have hlt_hx129 : k < (L).length := by first | omega | (simp; done) | (simp; omega)
              obtain ⟨x129, hx129⟩ := get_some hlt_hx129
              refine ha_y 5 hF rfl rfl rfl (wn_none rfl) (.inr hSS) (yl_indexAddr hF rfl rfl rfl (fun _ => run_idx' sl22 sz59 (hS.rdRo 3 rfl) hlt_hx129)) ?_
              clear hF; intro a hF
              refine ha_l 6 hF rfl rfl rfl (wn_none rfl) hSS (yl_loadEl (rs := [.int .i64 (x129.f0), .string x129.f1]) hF rfl rfl ag59 sz59 rfl (fun _ h => rd_cells (enc := enc59) (Sat.rdRo h 2 rfl) enc59_len hx129)) ?_
              clear hF; intro a hF
              refine ha_one 7 (by kernel_rfl) rfl (wn_none rfl) (wp_bslice (parts := [(0, .tmp 72)]) (vs := [(0, _)]) (enc := enc59) (e := 59) (size := 2) (cs := #[.int .i64 (x129.f0), .string x129.f1]) hF hS rfl rfl rfl rfl ([(E59.mk (x129.f0) x129.f1)] : List E59) (fun w => by kernel_rfl) rfl rfl rfl (by decide) ?_)
              clear hF hS; intro a w v130 hF hS
              obtain ⟨Av130, cv130, rfl⟩ := hS.form 0 rfl
              replace hSS := hS.sub [3, 1, 4] (by decide) rfl (by simp)
              refine ⟨.inr hSS, ?_⟩
              refine ha_one 8 (by kernel_rfl) rfl (wn_none rfl) (wp_app (enc := enc59) hF hS rfl rfl rfl rfl rfl 5 rfl sl22 inf59 rfl (by decide) (hS.rdRow 0 rfl) enc59_one (by decide) (by first | omega | (simp only [List.length_append, List.length_cons, List.length_nil]; omega) | (simp; omega)) ?_)
              clear hF hS; intro a w v131 hF hS
              obtain ⟨Av131, cv131, rfl⟩ := hS.form 5 rfl
              replace hSS := hS.sub [3, 1, 4] (by decide) rfl (by simp)
              refine ⟨.inr hSS, ?_⟩
              refine ha_y 9 hF rfl rfl rfl (wn_none rfl) (.inr hSS) (yl_fieldAddr hF rfl rfl (fun w => by kernel_rfl : ∀ w, (Instr.fieldAt 24 (.pointer (some ⟨g126, 0, none⟩)) 1).run Try.prog w = .ok (.pointer (some ⟨g126, 1, none⟩)) w)) ?_
              clear hF; intro a hF
              refine ha_one 10 (by kernel_rfl) rfl (wn_none rfl) (wp_store (cs' := #[_, _, _]) hF hS rfl rfl rfl rfl 3 rfl sz22 (by simp [Value.cells, Value.oneCell']) (by simp [Value.cells]) rfl ?_)
              clear hF hS; intro a w hF hS
              refine ⟨.inl (by kernel_rfl), ?_⟩
              refine ha_done (by kernel_rfl) ?_ _
              refine inb_n ?_
              refine then_n ?_
              refine c_region ?_
              refine seq_yl hF (wn_none rfl) rfl rfl (yl_move hF rfl rfl) ?_
              clear hF; intro a hF
              refine seq_yl hF (wn_none rfl) rfl rfl (yl_bin hF rfl rfl rfl rfl (fun _ => run_inc (by omega))) ?_
              clear hF; intro a hF
              refine seq_yl hF (wn_none rfl) rfl rfl (yl_assign hF rfl rfl) ?_
              clear hF; intro a hF
              refine wpList_nil ?_
              refine then_n ?_
              rw [selL_in (s := x119.f0) (old := (fun i => decide (i ≤ ((kk : Nat) : Int)))) hx129 (by first | exact .inl (by assumption) | exact .inr (decide_eq_false (by omega)))] at hS hF
              exact ⟨_, (by omega), k + 1, Av131, _, cv131, rfl, (show _ ≤ _ by omega), hF.to [1, 2, 4, 6, 9, 10] rfl, (hS.sub [1, 2, 3, 4, 5, 6] (by decide) (by first | rfl | simp) (by simp))⟩
            · first | (replace hc128 := of_decide_eq_false hc128) | (replace hc128 := of_decide_eq_true (bnot_f hc128)) | (subst hc128) | (replace hc128 := bnot_f hc128; subst hc128) | (replace hc128 := bnot_f hc128) | skip
              try (have hc128x := hc128; simp only [okS, okI, okW, okP] at hc128x)
              refine ha_y 4 hF rfl rfl rfl (wn_t hF rfl rfl rfl rfl) (.inr hSS) (yl_fieldAddr hF rfl rfl (fun w => by kernel_rfl : ∀ w, (Instr.fieldAt 24 (.pointer (some ⟨g111, 0, none⟩)) 1).run Try.prog w = .ok (.pointer (some ⟨g111, 1, none⟩)) w)) ?_
              clear hF; intro a hF
              refine ha_y 6 hF rfl rfl rfl (wn_t hF rfl rfl rfl rfl) (.inr hSS) (yl_move hF rfl rfl) ?_
              clear hF; intro a hF
              refine ha_y 10 hF rfl rfl rfl (wn_t hF rfl rfl rfl rfl) (.inr hSS) (yl_fieldAddr hF rfl rfl (fun w => by kernel_rfl : ∀ w, (Instr.fieldAt 59 (.pointer (some ⟨g121, 0, none⟩)) 0).run Try.prog w = .ok (.pointer (some ⟨g121, 0, none⟩)) w)) ?_
              clear hF; intro a hF
              refine ha_l 5 hF rfl rfl rfl (wn_t hF rfl rfl rfl rfl) hSS (yl_load (fun _ h => h) hF rfl rfl 0 rfl ag22 rfl) ?_
              clear hF; intro a hF
              have hlt_hx132 : k < (L).length := by first | omega | (simp; done) | (simp; omega)
              obtain ⟨x132, hx132⟩ := get_some hlt_hx132
              refine ha_y 7 hF rfl rfl rfl (wn_t hF rfl rfl rfl rfl) (.inr hSS) (yl_indexAddr hF rfl rfl rfl (fun _ => run_idx' sl22 sz59 (hS.rdRo 3 rfl) hlt_hx132)) ?_
              clear hF; intro a hF
              refine ha_y 8 hF rfl rfl rfl (wn_t hF rfl rfl rfl rfl) (.inr hSS) (yl_fieldAddr hF rfl rfl (fun w => run_fa0 fo59_0)) ?_
              clear hF; intro a hF
              refine ha_l 9 hF rfl rfl rfl (wn_t hF rfl rfl rfl rfl) hSS (yl_loadAt hF rfl rfl ag3 (fun _ h => rd_cell0 (enc := enc59) (Sat.rdRo h 1 rfl) enc59_len hx132 rfl rfl)) ?_
              clear hF; intro a hF
              refine ha_l 11 hF rfl rfl rfl (wn_t hF rfl rfl rfl rfl) hSS (yl_load (fun _ h => h) hF rfl rfl 2 rfl ag3 rfl) ?_
              clear hF; intro a hF
              refine ha_y 12 hF rfl rfl rfl (wn_t hF rfl rfl rfl rfl) (.inr hSS) (yl_bin hF rfl rfl rfl rfl (fun _ => run_neq)) ?_
              clear hF; intro a hF
              refine ha_y 13 hF rfl rfl rfl (wn_none rfl) (.inr hSS) (yl_pick (u := _) (v := undef) hF rfl rfl (fun h => by cases h) (fun _ => rfl)) ?_
              clear hF; intro a hF
              refine ha_done (by kernel_rfl) ?_ _
              refine then_n ?_
              refine c_cond hF rfl (fun hc133 => ?_) (fun hc133 => ?_)
              · first | (replace hc133 := of_decide_eq_true hc133) | (replace hc133 := of_decide_eq_false (bnot_t hc133)) | (subst hc133) | (replace hc133 := bnot_t hc133; subst hc133) | (replace hc133 := bnot_t hc133) | skip
                try (have hc133x := hc133; simp only [okS, okI, okW, okP] at hc133x)
                refine ha_startS hS [2, 0, 3] 10 (by kernel_rfl) ?_; clear hS; intro w hS
                have hSS := hS.sub [2, 0, 3] (by decide) rfl (by simp)
                refine ha_y 0 hF rfl rfl rfl (wn_none rfl) (.inr hSS) (yl_fieldAddr hF rfl rfl (fun w => by kernel_rfl : ∀ w, (Instr.fieldAt 24 (.pointer (some ⟨g126, 0, none⟩)) 1).run Try.prog w = .ok (.pointer (some ⟨g126, 1, none⟩)) w)) ?_
                clear hF; intro a hF
                refine ha_y 2 hF rfl rfl rfl (wn_none rfl) (.inr hSS) (yl_fieldAddr hF rfl rfl (fun w => by kernel_rfl : ∀ w, (Instr.fieldAt 24 (.pointer (some ⟨g111, 0, none⟩)) 1).run Try.prog w = .ok (.pointer (some ⟨g111, 1, none⟩)) w)) ?_
                clear hF; intro a hF
                refine ha_y 4 hF rfl rfl rfl (wn_none rfl) (.inr hSS) (yl_move hF rfl rfl) ?_
                clear hF; intro a hF
                refine ha_l 1 hF rfl rfl rfl (wn_none rfl) hSS (yl_load (fun _ h => h) hF rfl rfl 0 rfl ag22 rfl) ?_
                clear hF; intro a hF
                refine ha_l 3 hF rfl rfl rfl (wn_none rfl) hSS (yl_load (fun _ h => h) hF rfl rfl 1 rfl ag22 rfl) ?_
                clear hF; intro a hF
                refine ha_y 5 hF rfl rfl rfl (wn_none rfl) (.inr hSS) (yl_indexAddr hF rfl rfl rfl (fun _ => run_idx' sl22 sz59 (hS.rdRo 3 rfl) hlt_hx132)) ?_
                clear hF; intro a hF
                refine ha_l 6 hF rfl rfl rfl (wn_none rfl) hSS (yl_loadEl (rs := [.int .i64 (x132.f0), .string x132.f1]) hF rfl rfl ag59 sz59 rfl (fun _ h => rd_cells (enc := enc59) (Sat.rdRo h 2 rfl) enc59_len hx132)) ?_
                clear hF; intro a hF
                refine ha_one 7 (by kernel_rfl) rfl (wn_none rfl) (wp_bslice (parts := [(0, .tmp 72)]) (vs := [(0, _)]) (enc := enc59) (e := 59) (size := 2) (cs := #[.int .i64 (x132.f0), .string x132.f1]) hF hS rfl rfl rfl rfl ([(E59.mk (x132.f0) x132.f1)] : List E59) (fun w => by kernel_rfl) rfl rfl rfl (by decide) ?_)
                clear hF hS; intro a w v134 hF hS
                obtain ⟨Av134, cv134, rfl⟩ := hS.form 0 rfl
                replace hSS := hS.sub [3, 1, 4] (by decide) rfl (by simp)
                refine ⟨.inr hSS, ?_⟩
                refine ha_one 8 (by kernel_rfl) rfl (wn_none rfl) (wp_app (enc := enc59) hF hS rfl rfl rfl rfl rfl 5 rfl sl22 inf59 rfl (by decide) (hS.rdRow 0 rfl) enc59_one (by decide) (by first | omega | (simp only [List.length_append, List.length_cons, List.length_nil]; omega) | (simp; omega)) ?_)
                clear hF hS; intro a w v135 hF hS
                obtain ⟨Av135, cv135, rfl⟩ := hS.form 5 rfl
                replace hSS := hS.sub [3, 1, 4] (by decide) rfl (by simp)
                refine ⟨.inr hSS, ?_⟩
                refine ha_y 9 hF rfl rfl rfl (wn_none rfl) (.inr hSS) (yl_fieldAddr hF rfl rfl (fun w => by kernel_rfl : ∀ w, (Instr.fieldAt 24 (.pointer (some ⟨g126, 0, none⟩)) 1).run Try.prog w = .ok (.pointer (some ⟨g126, 1, none⟩)) w)) ?_
                clear hF; intro a hF
                refine ha_one 10 (by kernel_rfl) rfl (wn_none rfl) (wp_store (cs' := #[_, _, _]) hF hS rfl rfl rfl rfl 3 rfl sz22 (by simp [Value.cells, Value.oneCell']) (by simp [Value.cells]) rfl ?_)
                clear hF hS; intro a w hF hS
                refine ⟨.inl (by kernel_rfl), ?_⟩
                refine ha_done (by kernel_rfl) ?_ _
                refine inb_n ?_
                refine then_n ?_
                refine c_region ?_
                refine seq_yl hF (wn_none rfl) rfl rfl (yl_move hF rfl rfl) ?_
                clear hF; intro a hF
                refine seq_yl hF (wn_none rfl) rfl rfl (yl_bin hF rfl rfl rfl rfl (fun _ => run_inc (by omega))) ?_
                clear hF; intro a hF
                refine seq_yl hF (wn_none rfl) rfl rfl (yl_assign hF rfl rfl) ?_
                clear hF; intro a hF
                refine wpList_nil ?_
                refine then_n ?_
                rw [selL_in (s := x119.f0) (old := (fun i => decide (i ≤ ((kk : Nat) : Int)))) hx132 (by first | exact .inl (by assumption) | exact .inr (decide_eq_false (by omega)))] at hS hF
                exact ⟨_, (by omega), k + 1, Av135, _, cv135, rfl, (show _ ≤ _ by omega), hF.to [1, 2, 4, 6, 9, 10] rfl, (hS.sub [1, 2, 3, 4, 5, 6] (by decide) (by first | rfl | simp) (by simp))⟩
              · first | (replace hc133 := of_decide_eq_false hc133) | (replace hc133 := of_decide_eq_true (bnot_f hc133)) | (subst hc133) | (replace hc133 := bnot_f hc133; subst hc133) | (replace hc133 := bnot_f hc133) | skip
                try (have hc133x := hc133; simp only [okS, okI, okW, okP] at hc133x)
                refine wp_skip ?_
                refine inb_n ?_
                refine then_n ?_
                refine c_region ?_
                refine seq_yl hF (wn_none rfl) rfl rfl (yl_move hF rfl rfl) ?_
                clear hF; intro a hF
                refine seq_yl hF (wn_none rfl) rfl rfl (yl_bin hF rfl rfl rfl rfl (fun _ => run_inc (by omega))) ?_
                clear hF; intro a hF
                refine seq_yl hF (wn_none rfl) rfl rfl (yl_assign hF rfl rfl) ?_
                clear hF; intro a hF
                refine wpList_nil ?_
                refine then_n ?_
                rw [selL_out (s := x119.f0) (old := (fun i => decide (i ≤ ((kk : Nat) : Int)))) hx132 (by omega) (decide_eq_true (by omega))] at hS
                exact ⟨_, (by omega), k + 1, AvR, _, cvR, rfl, (show _ ≤ _ by omega), hF.to [1, 2, 4, 6, 9, 10] rfl, (hS.sub [0, 1, 2, 3, 4, 5] (by decide) (by first | rfl | simp) (by simp))⟩
          · first | (replace hc127 := of_decide_eq_false hc127) | (replace hc127 := of_decide_eq_true (bnot_f hc127)) | (subst hc127) | (replace hc127 := bnot_f hc127; subst hc127) | (replace hc127 := bnot_f hc127) | skip
            try (have hc127x := hc127; simp only [okS, okI, okW, okP] at hc127x)
            refine wp_exit ?_
            refine then_x ?_
            refine then_x ?_
            refine inb_x ?_
            refine then_n ?_
            refine c_seq ?_
            refine c_region ?_
            refine seq_yl hF (wn_none rfl) rfl rfl (yl_loadK (rs := [_, _, _]) (fun _ h => h ▸ hS) hF rfl rfl 2 rfl ag24 sz24 rfl rfl) ?_
            clear hF; intro a hF
            refine seq_wp (wn_none rfl) (wp_store (cs' := #[_, _, _]) hF hS rfl rfl rfl rfl 5 rfl sz24 (by simp [Value.cells, Value.oneCell']) (by simp [Value.cells]) rfl ?_)
            clear hF hS; intro a w hF hS
            refine seq_yl hF (wn_none rfl) rfl rfl (yl_assign hF rfl rfl) ?_
            clear hF; intro a hF
            refine wpList_nil ?_
            refine then_n ?_
            refine wp_ret ?_
            refine ret_ct hF rfl (resC hS rfl 5 rfl ag24 sz24) rfl ?_
            rw [show L.take k = L from List.take_of_length_le (by omega)] at hS
            exact ⟨_, rfl, _, _, _, _, _, rfl, destF_at (‹okD st L rm› : okD st L rm) hx119, (hS.sub [4] (by decide) (by first | rfl | simp) (by simp))⟩

end Go.Proofs.Ytlhcpeolkkadbaa

/- walks, printed by wip/gen -/
import Derived.Test.YtkejcnhfbfgphaaX2
namespace Go.Proofs.Ytkejcnhfbfgphaa
open Go.RowKit
set_option linter.unusedVariables false
set_option linter.unusedSimpArgs false

set_option maxRecDepth 100000 in
theorem cloneP_any (v : Value) (L : List E67) (w0 : World) (h : Rd w0 2 v (L).length (cells enc67 (L))) (hn : L.length ≤ 1000000) :
  Fn Try.prog 38 #[v] w0 (fun v w' => ∃ v1, v = v1 ∧ Sat w0 w' [.row 67 2 v1 (L).length (cells enc67 (L))]) := by
 obtain ⟨Av, cv, rfl⟩ := Rd.form h
 refine c_enter (N := 8) (l := [_]) Try.func38 rfl rfl (fun a w hF hS => ?_)
 replace hS := hS.addRo h
 refine c_seq ?_
 refine c_region ?_
 refine asN hF rfl rfl rfl rfl rfl ?_; clear hF; intro a hF
 refine wpList_nil ?_
 refine then_n ?_
 refine c_seq ?_
 refine c_seq ?_
 refine c_region ?_
 refine mvN hF rfl rfl rfl rfl rfl ?_; clear hF; intro a hF
 refine seq_yl hF (wn_none rfl) rfl rfl (yl_bin hF rfl rfl rfl rfl (fun _ => run_slnil sl41)) ?_; clear hF; intro a hF
 refine wpList_nil ?_
 refine then_n ?_
 refine c_cond hF rfl (fun hc453 => ?_) (fun hc453 => ?_)
 ·first | (replace hc453 := of_decide_eq_true hc453) | (replace hc453 := of_decide_eq_false (bnot_t hc453)) | (subst hc453) | (replace hc453 := bnot_t hc453; subst hc453) | (replace hc453 := bnot_t hc453) | skip
  try (have hc453x := hc453; simp only [okS, okI, okW, okP] at hc453x)
  refine c_seq ?_
  refine c_region ?_
  refine asN hF rfl rfl rfl rfl rfl ?_; clear hF; intro a hF
  refine wpList_nil ?_
  refine then_n ?_
  refine wp_ret ?_
  refine then_r ?_
  refine ret_t hF rfl rfl ?_
  obtain rfl := rd_none h (by assumption)
  replace hS := hS.addNil 67 2
  exact ⟨_, rfl, _, rfl, (hS.sub [0] (by decide) (by first | rfl | simp) (by simp))⟩
 ·first | (replace hc453 := of_decide_eq_false hc453) | (replace hc453 := of_decide_eq_true (bnot_f hc453)) | (subst hc453) | (replace hc453 := bnot_f hc453; subst hc453) | (replace hc453 := bnot_f hc453) | skip
  try (have hc453x := hc453; simp only [okS, okI, okW, okP] at hc453x)
  refine wp_skip ?_
  refine then_n ?_
  refine c_seq ?_
  refine c_region ?_
  refine seq_wp (wn_none rfl) (wp_bslice (parts := []) (vs := []) (enc := enc67) (e := 67) (size := 2) (cs := #[]) hF hS rfl rfl rfl rfl ([] : List E67) (fun w => by kernel_rfl) rfl rfl rfl (by decide) ?_)
  clear hF hS; intro a w v455 hF hS
  obtain ⟨Av455, cv455, rfl⟩ := hS.form 0 rfl
  refine mvN hF rfl rfl rfl rfl rfl ?_; clear hF; intro a hF
  refine seq_wp (wn_none rfl) (wp_app (enc := enc67) hF hS rfl rfl rfl rfl rfl 0 rfl sl41 inf67 rfl (by decide) (hS.rdRo 1 rfl) enc67_one (by decide) (by first | omega | (simp only [List.length_append, List.length_cons, List.length_nil]; omega) | (simp; omega)) ?_)
  clear hF hS; intro a w v456 hF hS
  obtain ⟨Av456, cv456, rfl⟩ := hS.form 0 rfl
  refine asN hF rfl rfl rfl rfl rfl ?_; clear hF; intro a hF
  refine wpList_nil ?_
  refine then_n ?_
  refine wp_ret ?_
  refine ret_t hF rfl rfl ?_
  exact ⟨_, rfl, _, rfl, (hS.sub [0] (by decide) (by first | rfl | simp) (by simp))⟩

set_option maxRecDepth 100000 in
theorem without_any (lv : Value) (L : List E67) (s : Int) (w0 : World) (hv : Rd w0 2 lv (L).length (cells enc67 (L))) (hL : L.length ≤ 1000000) :
  Fn Try.prog 72 #[lv, .int .i64 s] w0 (fun v w' => ∃ v1, v = v1 ∧ Sat w0 w' [.row 67 2 v1 ((selL s (fun _ => true) 0 L)).length (cells enc67 ((selL s (fun _ => true) 0 L)))]) := by
 obtain ⟨Alv, clv, rfl⟩ := Rd.form hv
 refine c_enter (N := 28) (l := [_, _]) Try.func72 rfl rfl (fun a w hF hS => ?_)
 replace hS := hS.addRo hv
 refine c_seq ?_
 refine c_region ?_
 refine asN hF rfl rfl rfl rfl rfl ?_; clear hF; intro a hF
 refine wpList_nil ?_
 refine then_n ?_
 refine c_seq ?_
 refine c_region ?_
 refine asN hF rfl rfl rfl rfl rfl ?_; clear hF; intro a hF
 refine wpList_nil ?_
 refine then_n ?_
 refine c_seq ?_
 refine c_seq ?_
 refine c_region ?_
 refine asN hF rfl rfl rfl rfl rfl ?_; clear hF; intro a hF
 refine wpList_nil ?_
 refine then_n ?_
 refine wp_block ?_
 replace hS := hS.addNil 67 2
 refine c_loop (fun m a w => ∃ (k : Nat) (AvR : Option Addr) (mv cvR : Nat), m = L.length - k ∧ (k ≤ L.length) ∧ Fr 28 a [(0, .slice Alv (L).length clv), (1, .int .i64 (s)), (5, .slice AvR mv cvR), (6, .int .i64 ((k : Nat) : Int))] ∧ Sat w0 w (.ro 2 (.slice Alv (L).length clv) (L).length (cells enc67 (L)) :: .row 67 2 (.slice AvR mv cvR) ((selL s (fun _ => true) 0 (L.take k))).length (cells enc67 ((selL s (fun _ => true) 0 (L.take k)))) :: [])) (L.length - 0) ?_ ?_
 ·exact ⟨0, none, 0, 0, rfl, (Nat.zero_le _), hF.to [0, 1, 5, 6] rfl, (hS.sub [1, 0] (by decide) (by first | rfl | simp) (by simp))⟩
 ·clear hF hS; try clear hSS
  clear a w; rintro m a w ⟨k, AvR, mv, cvR, rfl, hinv, hF, hS⟩
  have hk : k ≤ L.length := hinv
  have hvl := len_selL (s := s) (old := (fun _ => true)) (L.take k) 0
  have htl : (L.take k).length ≤ L.length := by simp; omega
  refine c_seq ?_
  refine c_seq ?_
  refine c_region ?_
  refine mvN hF rfl rfl rfl rfl rfl ?_; clear hF; intro a hF
  refine mvN hF rfl rfl rfl rfl rfl ?_; clear hF; intro a hF
  refine seq_yl hF (wn_none rfl) rfl rfl (yl_len hF rfl rfl (fun _ => run_lenRd sl41 (hS.rdRo 0 rfl))) ?_; clear hF; intro a hF
  refine seq_yl hF (wn_none rfl) rfl rfl (yl_bin hF rfl rfl rfl rfl (fun _ => run_lss)) ?_; clear hF; intro a hF
  refine wpList_nil ?_
  refine then_n ?_
  refine c_cond hF rfl (fun hc457 => ?_) (fun hc457 => ?_)
  ·first | (replace hc457 := of_decide_eq_true hc457) | (replace hc457 := of_decide_eq_false (bnot_t hc457)) | (subst hc457) | (replace hc457 := bnot_t hc457; subst hc457) | (replace hc457 := bnot_t hc457) | skip
   try (have hc457x := hc457; simp only [okS, okI, okW, okP] at hc457x)
   refine wp_skip ?_
   refine then_n ?_
   refine c_seq ?_
   refine wp_block ?_
   refine c_seq ?_
   refine c_region ?_
   refine mvN hF rfl rfl rfl rfl rfl ?_; clear hF; intro a hF
   refine mvN hF rfl rfl rfl rfl rfl ?_; clear hF; intro a hF
   have hlt_hx458 : k < (L).length := by first | omega | (simp; done) | (simp; omega)
   obtain ⟨ad459, rfl⟩ := rd_some (hS.rdRo 0 rfl) hlt_hx458
   obtain ⟨x458, hx458⟩ := get_some hlt_hx458
   refine seq_yl hF (wn_none rfl) rfl rfl (yl_indexAddr hF rfl rfl rfl (fun _ => run_idx' sl41 sz67 (hS.rdRo 0 rfl) hlt_hx458)) ?_; clear hF; intro a hF
   refine seq_yl hF (wn_none rfl) rfl rfl (yl_fieldAddr hF rfl rfl (fun w => run_fa0 fo67_0)) ?_; clear hF; intro a hF
   refine seq_yl hF (wn_none rfl) rfl rfl (yl_loadAt hF rfl rfl ag3 (fun _ h => rd_cell0 (enc := enc67) (by subst h; exact hS.rdRo 0 rfl) enc67_len hx458 rfl rfl)) ?_; clear hF; intro a hF
   refine mvN hF rfl rfl rfl rfl rfl ?_; clear hF; intro a hF
   refine seq_yl hF (wn_none rfl) rfl rfl (yl_bin hF rfl rfl rfl rfl (fun _ => run_neq)) ?_; clear hF; intro a hF
   refine wpList_nil ?_
   refine then_n ?_
   refine c_cond hF rfl (fun hc460 => ?_) (fun hc460 => ?_)
   ·first | (replace hc460 := of_decide_eq_true hc460) | (replace hc460 := of_decide_eq_false (bnot_t hc460)) | (subst hc460) | (replace hc460 := bnot_t hc460; subst hc460) | (replace hc460 := bnot_t hc460) | skip
    try (have hc460x := hc460; simp only [okS, okI, okW, okP] at hc460x)
    refine c_region ?_
    refine mvN hF rfl rfl rfl rfl rfl ?_; clear hF; intro a hF
    refine mvN hF rfl rfl rfl rfl rfl ?_; clear hF; intro a hF
    refine mvN hF rfl rfl rfl rfl rfl ?_; clear hF; intro a hF
    refine seq_yl hF (wn_none rfl) rfl rfl (yl_indexAddr hF rfl rfl rfl (fun _ => run_idx' sl41 sz67 (hS.rdRo 0 rfl) hlt_hx458)) ?_; clear hF; intro a hF
    refine seq_yl hF (wn_none rfl) rfl rfl (yl_loadEl (rs := [.int .i64 (x458.f0), .string x458.f1]) hF rfl rfl ag67 sz67 rfl (fun _ h => rd_cells (enc := enc67) (by subst h; exact hS.rdRo 0 rfl) enc67_len hx458)) ?_; clear hF; intro a hF
    refine seq_wp (wn_none rfl) (wp_bslice (parts := [(0, .tmp 24)]) (vs := [(0, _)]) (enc := enc67) (e := 67) (size := 2) (cs := #[.int .i64 (x458.f0), .string x458.f1]) hF hS rfl rfl rfl rfl ([(E67.mk (x458.f0) x458.f1)] : List E67) (fun w => by kernel_rfl) rfl rfl rfl (by decide) ?_)
    clear hF hS; intro a w v461 hF hS
    obtain ⟨Av461, cv461, rfl⟩ := hS.form 0 rfl
    refine seq_wp (wn_none rfl) (wp_app (enc := enc67) hF hS rfl rfl rfl rfl rfl 2 rfl sl41 inf67 rfl (by decide) (hS.rdRow 0 rfl) enc67_one (by decide) (by first | omega | (simp only [List.length_append, List.length_cons, List.length_nil]; omega) | (simp; omega)) ?_)
    clear hF hS; intro a w v462 hF hS
    obtain ⟨Av462, cv462, rfl⟩ := hS.form 2 rfl
    refine asN hF rfl rfl rfl rfl rfl ?_; clear hF; intro a hF
    refine wpList_nil ?_
    refine inb_n ?_
    refine then_n ?_
    refine c_region ?_
    refine mvN hF rfl rfl rfl rfl rfl ?_; clear hF; intro a hF
    refine seq_yl hF (wn_none rfl) rfl rfl (yl_bin hF rfl rfl rfl rfl (fun _ => run_inc (by omega))) ?_; clear hF; intro a hF
    refine asN hF rfl rfl rfl rfl rfl ?_; clear hF; intro a hF
    refine wpList_nil ?_
    refine then_n ?_
    rw [selL_in (s := s) (old := (fun _ => true)) hx458 (.inl (by assumption))] at hS hF
    exact ⟨_, (by omega), k + 1, Av462, _, cv462, rfl, (show _ ≤ _ by omega), hF.to [0, 1, 5, 6] rfl, (hS.sub [1, 2] (by decide) (by first | rfl | simp) (by simp))⟩
   ·first | (replace hc460 := of_decide_eq_false hc460) | (replace hc460 := of_decide_eq_true (bnot_f hc460)) | (subst hc460) | (replace hc460 := bnot_f hc460; subst hc460) | (replace hc460 := bnot_f hc460) | skip
    try (have hc460x := hc460; simp only [okS, okI, okW, okP] at hc460x)
    refine wp_skip ?_
    refine inb_n ?_
    refine then_n ?_
    refine c_region ?_
    refine mvN hF rfl rfl rfl rfl rfl ?_; clear hF; intro a hF
    refine seq_yl hF (wn_none rfl) rfl rfl (yl_bin hF rfl rfl rfl rfl (fun _ => run_inc (by omega))) ?_; clear hF; intro a hF
    refine asN hF rfl rfl rfl rfl rfl ?_; clear hF; intro a hF
    refine wpList_nil ?_
    refine then_n ?_
    rw [selL_out (s := s) (old := (fun _ => true)) hx458 (by omega) (rfl)] at hS
    exact ⟨_, (by omega), k + 1, AvR, _, cvR, rfl, (show _ ≤ _ by omega), hF.to [0, 1, 5, 6] rfl, (hS.sub [0, 1] (by decide) (by first | rfl | simp) (by simp))⟩
  ·first | (replace hc457 := of_decide_eq_false hc457) | (replace hc457 := of_decide_eq_true (bnot_f hc457)) | (subst hc457) | (replace hc457 := bnot_f hc457; subst hc457) | (replace hc457 := bnot_f hc457) | skip
   try (have hc457x := hc457; simp only [okS, okI, okW, okP] at hc457x)
   refine wp_exit ?_
   refine then_x ?_
   refine then_x ?_
   refine inb_x ?_
   refine then_n ?_
   refine c_seq ?_
   refine c_region ?_
   refine mvN hF rfl rfl rfl rfl rfl ?_; clear hF; intro a hF
   refine asN hF rfl rfl rfl rfl rfl ?_; clear hF; intro a hF
   refine wpList_nil ?_
   refine then_n ?_
   refine wp_ret ?_
   refine ret_t hF rfl rfl ?_
   rw [show L.take k = L from List.take_of_length_le (by omega)] at hS; exact ⟨_, rfl, _, rfl, (hS.sub [1] (by decide) (by first | rfl | simp) (by simp))⟩

set_option maxHeartbeats 1000000 in
set_option maxRecDepth 100000 in
theorem dest2_any (st : ByteArray) (lv : Value) (L : List E67) (rm : Int) (q : Int) (w0 : World) (hv : Rd w0 2 lv (L).length (cells enc67 (L))) (hz : (st.size : Int) ≤ 9223372036854775807) (hL : L.length ≤ 1000000) :
  Fn Try.prog 73 #[.agg #[.string st, lv, .int .i64 rm], .int .i64 q] w0 (fun v w' => ∃ (st1 : ByteArray) (lv1 : Value) (L1 : List E67) (rm1 : Int) (b : Bool), v = .tuple #[.agg #[.string st1, lv1, .int .i64 rm1], .bool b] ∧ destF st L rm q = (st1, L1, rm1, b) ∧ Sat w0 w' [.row 67 2 lv1 (L1).length (cells enc67 (L1))]) := by
 obtain ⟨Alv, clv, rfl⟩ := Rd.form hv
 refine c_enter (N := 77) (l := [_, _]) Try.func73 rfl rfl (fun a w hF hS => ?_)
 replace hS := hS.addRo hv
 refine c_seq ?_
 refine c_region ?_
 refine seq_wp (wn_none rfl) (wp_box (cs := #[_, _, _]) hF hS rfl rfl rfl rfl rfl ?_)
 clear hF hS; intro a w g463 hF hS
 refine seq_wp (wn_none rfl) (wp_alloc (cs := #[_, _, _]) hF hS rfl rfl rfl zr43 rfl ?_)
 clear hF hS; intro a w g464 hF hS
 refine asN hF rfl rfl rfl rfl rfl ?_; clear hF; intro a hF
 refine wpList_nil ?_
 refine then_n ?_
 refine c_seq ?_
 refine c_seq ?_
 refine c_region ?_
 refine seq_yl hF (wn_none rfl) rfl rfl (yl_loadK (rs := [_, _, _]) (fun _ h => h ▸ hS) hF rfl rfl 1 rfl ag43 sz43 rfl rfl) ?_; clear hF; intro a hF
 refine seq_wp (wn_none rfl) (wp_call (vs := [_]) hF rfl rfl rfl rfl cf44 (dValid2_any st _ L (rm) _ (hS.rdRo 2 rfl) (by first | omega | (simp; done)) (by first | omega | (simp; done))) ?_)
 clear hF; rintro _ w ⟨rfl, hS1⟩ a hF
 replace hS := hS.callB hS1 rfl; clear hS1
 refine seq_yl hF (wn_none rfl) rfl rfl (yl_un hF rfl rfl (fun _ => run_not)) ?_; clear hF; intro a hF
 refine mvN hF rfl rfl rfl rfl rfl ?_; clear hF; intro a hF
 refine fr_split hF (fun hc465 hF => ?_) (fun hc465 hF => ?_)
 ·first | (replace hc465 := of_decide_eq_true hc465) | (replace hc465 := of_decide_eq_false (bnot_t hc465)) | (subst hc465) | (replace hc465 := bnot_t hc465; subst hc465) | (replace hc465 := bnot_t hc465) | skip
  try (have hc465x := hc465; simp only [okS, okI, okW, okP] at hc465x)
  refine skF hF rfl rfl rfl rfl rfl rfl ?_; clear hF; intro a hF
  refine skF hF rfl rfl rfl rfl rfl rfl ?_; clear hF; intro a hF
  refine seq_yl hF (wn_none rfl) rfl rfl (pkT hF rfl rfl rfl) ?_; clear hF; intro a hF
  refine mvN hF rfl rfl rfl rfl rfl ?_; clear hF; intro a hF
  refine skF hF rfl rfl rfl rfl rfl rfl ?_; clear hF; intro a hF
  refine skF hF rfl rfl rfl rfl rfl rfl ?_; clear hF; intro a hF
  refine skF hF rfl rfl rfl rfl rfl rfl ?_; clear hF; intro a hF
  refine skF hF rfl rfl rfl rfl rfl rfl ?_; clear hF; intro a hF
  refine skF hF rfl rfl rfl rfl rfl rfl ?_; clear hF; intro a hF
  refine seq_yl hF (wn_none rfl) rfl rfl (pkT hF rfl rfl rfl) ?_; clear hF; intro a hF
  refine wpList_nil ?_
  refine then_n ?_
  refine c_cond_t hF rfl ?_
  refine c_seq ?_
  refine c_region ?_
  refine seq_yl hF (wn_none rfl) rfl rfl (yl_build (parts := []) (vs := []) (cs := [_, _, _]) hF bd43 rfl rfl rfl rfl) ?_; clear hF; intro a hF
  refine seq_wp (wn_none rfl) (wp_store (cs' := #[_, _, _]) hF hS rfl rfl rfl rfl 0 rfl sz43 (by simp [Value.cells, Value.oneCell']) (by simp [Value.cells]) rfl ?_)
  clear hF hS; intro a w hF hS
  refine asN hF rfl rfl rfl rfl rfl ?_; clear hF; intro a hF
  refine wpList_nil ?_
  refine then_n ?_
  refine wp_ret ?_
  refine then_r ?_
  refine ret_ct hF rfl (resC hS rfl 0 rfl ag43 sz43) rfl ?_
  replace hS := hS.addNil 67 2
  exact ⟨_, rfl, _, _, [], _, _, rfl, ds_bad (fun h9 => by have h8 := h9.2; first | exact absurd h9.1 (by assumption) | omega), (hS.sub [0] (by decide) (by first | rfl | simp) (by simp))⟩
 ·first | (replace hc465 := of_decide_eq_false hc465) | (replace hc465 := of_decide_eq_true (bnot_f hc465)) | (subst hc465) | (replace hc465 := bnot_f hc465; subst hc465) | (replace hc465 := bnot_f hc465) | skip
  try (have hc465x := hc465; simp only [okS, okI, okW, okP] at hc465x)
  refine seq_yl hF (wn_t hF rfl rfl rfl rfl) rfl rfl (yl_move hF rfl rfl) ?_; clear hF; intro a hF
  refine seq_yl hF (wn_t hF rfl rfl rfl rfl) rfl rfl (yl_bin hF rfl rfl rfl rfl (fun _ => run_lss)) ?_; clear hF; intro a hF
  refine seq_yl hF (wn_none rfl) rfl rfl (pkF hF rfl rfl rfl) ?_; clear hF; intro a hF
  refine mvN hF rfl rfl rfl rfl rfl ?_; clear hF; intro a hF
  refine fr_split hF (fun hc467 hF => ?_) (fun hc467 hF => ?_)
  ·first | (replace hc467 := of_decide_eq_true hc467) | (replace hc467 := of_decide_eq_false (bnot_t hc467)) | (subst hc467) | (replace hc467 := bnot_t hc467; subst hc467) | (replace hc467 := bnot_t hc467) | skip
   try (have hc467x := hc467; simp only [okS, okI, okW, okP] at hc467x)
   refine skF hF rfl rfl rfl rfl rfl rfl ?_; clear hF; intro a hF
   refine skF hF rfl rfl rfl rfl rfl rfl ?_; clear hF; intro a hF
   refine skF hF rfl rfl rfl rfl rfl rfl ?_; clear hF; intro a hF
   refine skF hF rfl rfl rfl rfl rfl rfl ?_; clear hF; intro a hF
   refine skF hF rfl rfl rfl rfl rfl rfl ?_; clear hF; intro a hF
   refine seq_yl hF (wn_none rfl) rfl rfl (pkT hF rfl rfl rfl) ?_; clear hF; intro a hF
   refine wpList_nil ?_
   refine then_n ?_
   refine c_cond_t hF rfl ?_
   refine c_seq ?_
   refine c_region ?_
   refine seq_yl hF (wn_none rfl) rfl rfl (yl_build (parts := []) (vs := []) (cs := [_, _, _]) hF bd43 rfl rfl rfl rfl) ?_; clear hF; intro a hF
   refine seq_wp (wn_none rfl) (wp_store (cs' := #[_, _, _]) hF hS rfl rfl rfl rfl 0 rfl sz43 (by simp [Value.cells, Value.oneCell']) (by simp [Value.cells]) rfl ?_)
   clear hF hS; intro a w hF hS
   refine asN hF rfl rfl rfl rfl rfl ?_; clear hF; intro a hF
   refine wpList_nil ?_
   refine then_n ?_
   refine wp_ret ?_
   refine then_r ?_
   refine ret_ct hF rfl (resC hS rfl 0 rfl ag43 sz43) rfl ?_
   replace hS := hS.addNil 67 2
   exact ⟨_, rfl, _, _, [], _, _, rfl, ds_bad (fun h9 => by have h8 := h9.2; first | exact absurd h9.1 (by assumption) | omega), (hS.sub [0] (by decide) (by first | rfl | simp) (by simp))⟩
  ·first | (replace hc467 := of_decide_eq_false hc467) | (replace hc467 := of_decide_eq_true (bnot_f hc467)) | (subst hc467) | (replace hc467 := bnot_f hc467; subst hc467) | (replace hc467 := bnot_f hc467) | skip
   try (have hc467x := hc467; simp only [okS, okI, okW, okP] at hc467x)
   refine seq_yl hF (wn_t hF rfl rfl rfl rfl) rfl rfl (yl_move hF rfl rfl) ?_; clear hF; intro a hF
   refine seq_yl hF (wn_t hF rfl rfl rfl rfl) rfl rfl (yl_fieldAddr hF rfl rfl (fun w => by kernel_rfl : ∀ w, (Instr.fieldAt 43 (.pointer (some ⟨g463, 0, none⟩)) 1).run Try.prog w = .ok (.pointer (some ⟨g463, 1, none⟩)) w)) ?_; clear hF; intro a hF
   refine seq_yl hF (wn_t hF rfl rfl rfl rfl) rfl rfl (yl_load (fun _ h => h ▸ hS) hF rfl rfl 1 rfl ag41 rfl) ?_; clear hF; intro a hF
   refine seq_yl hF (wn_t hF rfl rfl rfl rfl) rfl rfl (yl_len hF rfl rfl (fun _ => run_lenRd sl41 (hS.rdRo 2 rfl))) ?_; clear hF; intro a hF
   refine seq_yl hF (wn_t hF rfl rfl rfl rfl) rfl rfl (yl_bin hF rfl rfl rfl rfl (fun _ => run_geq)) ?_; clear hF; intro a hF
   refine seq_yl hF (wn_none rfl) rfl rfl (pkF hF rfl rfl rfl) ?_; clear hF; intro a hF
   refine wpList_nil ?_
   refine then_n ?_
   refine c_cond hF rfl (fun hc469 => ?_) (fun hc469 => ?_)
   ·first | (replace hc469 := of_decide_eq_true hc469) | (replace hc469 := of_decide_eq_false (bnot_t hc469)) | (subst hc469) | (replace hc469 := bnot_t hc469; subst hc469) | (replace hc469 := bnot_t hc469) | skip
    try (have hc469x := hc469; simp only [okS, okI, okW, okP] at hc469x)
    refine c_seq ?_
    refine c_region ?_
    refine seq_yl hF (wn_none rfl) rfl rfl (yl_build (parts := []) (vs := []) (cs := [_, _, _]) hF bd43 rfl rfl rfl rfl) ?_; clear hF; intro a hF
    refine seq_wp (wn_none rfl) (wp_store (cs' := #[_, _, _]) hF hS rfl rfl rfl rfl 0 rfl sz43 (by simp [Value.cells, Value.oneCell']) (by simp [Value.cells]) rfl ?_)
    clear hF hS; intro a w hF hS
    refine asN hF rfl rfl rfl rfl rfl ?_; clear hF; intro a hF
    refine wpList_nil ?_
    refine then_n ?_
    refine wp_ret ?_
    refine then_r ?_
    refine ret_ct hF rfl (resC hS rfl 0 rfl ag43 sz43) rfl ?_
    replace hS := hS.addNil 67 2
    exact ⟨_, rfl, _, _, [], _, _, rfl, ds_bad (fun h9 => by have h8 := h9.2; first | exact absurd h9.1 (by assumption) | omega), (hS.sub [0] (by decide) (by first | rfl | simp) (by simp))⟩
   ·first | (replace hc469 := of_decide_eq_false hc469) | (replace hc469 := of_decide_eq_true (bnot_f hc469)) | (subst hc469) | (replace hc469 := bnot_f hc469; subst hc469) | (replace hc469 := bnot_f hc469) | skip
    try (have hc469x := hc469; simp only [okS, okI, okW, okP] at hc469x)
    refine wp_skip ?_
    refine then_n ?_
    refine c_seq ?_
    refine c_region ?_
    obtain ⟨kk, rfl⟩ : ∃ n : Nat, q = (n : Int) := ⟨q.toNat, by omega⟩
    refine seq_yl hF (wn_none rfl) rfl rfl (yl_fieldAddr hF rfl rfl (fun w => by kernel_rfl : ∀ w, (Instr.fieldAt 43 (.pointer (some ⟨g463, 0, none⟩)) 1).run Try.prog w = .ok (.pointer (some ⟨g463, 1, none⟩)) w)) ?_; clear hF; intro a hF
    refine seq_yl hF (wn_none rfl) rfl rfl (yl_load (fun _ h => h ▸ hS) hF rfl rfl 1 rfl ag41 rfl) ?_; clear hF; intro a hF
    refine mvN hF rfl rfl rfl rfl rfl ?_; clear hF; intro a hF
    have hlt_hx471 : kk < (L).length := by first | omega | (simp; done) | (simp; omega)
    obtain ⟨ad472, rfl⟩ := rd_some (hS.rdRo 2 rfl) hlt_hx471
    obtain ⟨x471, hx471⟩ := get_some hlt_hx471
    refine seq_yl hF (wn_none rfl) rfl rfl (yl_indexAddr hF rfl rfl rfl (fun _ => run_idx' sl41 sz67 (hS.rdRo 2 rfl) hlt_hx471)) ?_; clear hF; intro a hF
    refine seq_yl hF (wn_none rfl) rfl rfl (yl_loadEl (rs := [.int .i64 (x471.f0), .string x471.f1]) hF rfl rfl ag67 sz67 rfl (fun _ h => rd_cells (enc := enc67) (by subst h; exact hS.rdRo 2 rfl) enc67_len hx471)) ?_; clear hF; intro a hF
    refine seq_wp (wn_none rfl) (wp_alloc (cs := #[_, _]) hF hS rfl rfl rfl zr67 rfl ?_)
    clear hF hS; intro a w g473 hF hS
    refine seq_wp (wn_none rfl) (wp_store (cs' := #[_, _]) hF hS rfl rfl rfl rfl 0 rfl sz67 (by simp [Value.cells, Value.oneCell']) (by simp [Value.cells]) rfl ?_)
    clear hF hS; intro a w hF hS
    refine wpList_nil ?_
    refine then_n ?_
    refine c_seq ?_
    refine c_region ?_
    refine seq_yl hF (wn_none rfl) rfl rfl (yl_fieldAddr hF rfl rfl (fun w => by kernel_rfl : ∀ w, (Instr.fieldAt 43 (.pointer (some ⟨g463, 0, none⟩)) 0).run Try.prog w = .ok (.pointer (some ⟨g463, 0, none⟩)) w)) ?_; clear hF; intro a hF
    refine seq_yl hF (wn_none rfl) rfl rfl (yl_load (fun _ h => h ▸ hS) hF rfl rfl 2 rfl ag9 rfl) ?_; clear hF; intro a hF
    refine seq_yl hF (wn_none rfl) rfl rfl (yl_fieldAddr hF rfl rfl (fun w => by kernel_rfl : ∀ w, (Instr.fieldAt 67 (.pointer (some ⟨g473, 0, none⟩)) 0).run Try.prog w = .ok (.pointer (some ⟨g473, 0, none⟩)) w)) ?_; clear hF; intro a hF
    refine seq_yl hF (wn_none rfl) rfl rfl (yl_load (fun _ h => h ▸ hS) hF rfl rfl 0 rfl ag3 rfl) ?_; clear hF; intro a hF
    refine seq_yl hF (wn_none rfl) rfl rfl (yl_fieldAddr hF rfl rfl (fun w => by kernel_rfl : ∀ w, (Instr.fieldAt 67 (.pointer (some ⟨g473, 0, none⟩)) 1).run Try.prog w = .ok (.pointer (some ⟨g473, 1, none⟩)) w)) ?_; clear hF; intro a hF
    refine seq_yl hF (wn_none rfl) rfl rfl (yl_load (fun _ h => h ▸ hS) hF rfl rfl 0 rfl ag9 rfl) ?_; clear hF; intro a hF
    have hpz := ((‹okD st L rm› : okD st L rm).2.2.2 _ (List.mem_of_getElem? hx471)).2
    refine seq_wp (wn_none rfl) (wp_call (vs := [_, _, _]) hF rfl rfl rfl rfl cf71 (imWrite2_any st (x471.f0) x471.f1 _ (by omega) (by omega)) ?_)
    clear hF; rintro _ w ⟨xs474, e475, rfl, hsp476, hS1⟩ a hF
    replace hS := hS.callB hS1 rfl; clear hS1
    have hsp476z := fun h9 : okW ((st).size : Int) (x471.f0) ((x471.f1).size : Int) => wim_size (im := st) (s := (x471.f0)) (x := x471.f1) h9
    obtain ⟨hk477, rfl, rfl⟩ := hsp476.resolve_right (fun h9 => h9.1 (okP_W ((‹okD st L rm› : okD st L rm).2.2.2 _ (List.mem_of_getElem? hx471))))
    try (have hk477x := hk477; simp only [okS, okI, okW, okP] at hk477x)
    refine mvN hF rfl rfl rfl rfl rfl ?_; clear hF; intro a hF
    refine seq_yl hF (wn_none rfl) rfl rfl (yl_extract hF rfl rfl rfl) ?_; clear hF; intro a hF
    refine seq_yl hF (wn_none rfl) rfl rfl (yl_extract hF rfl rfl rfl) ?_; clear hF; intro a hF
    refine asN hF rfl rfl rfl rfl rfl ?_; clear hF; intro a hF
    refine asN hF rfl rfl rfl rfl rfl ?_; clear hF; intro a hF
    refine wpList_nil ?_
    refine then_n ?_
    refine c_seq ?_
    refine c_region ?_
    refine mvN hF rfl rfl rfl rfl rfl ?_; clear hF; intro a hF
    refine seq_yl hF (wn_none rfl) rfl rfl (yl_fieldAddr hF rfl rfl (fun w => by kernel_rfl : ∀ w, (Instr.fieldAt 43 (.pointer (some ⟨g463, 0, none⟩)) 2).run Try.prog w = .ok (.pointer (some ⟨g463, 2, none⟩)) w)) ?_; clear hF; intro a hF
    refine seq_yl hF (wn_none rfl) rfl rfl (yl_load (fun _ h => h ▸ hS) hF rfl rfl 2 rfl ag3 rfl) ?_; clear hF; intro a hF
    refine seq_yl hF (wn_none rfl) rfl rfl (yl_build (parts := [(0, .tmp 41), (2, .tmp 43)]) (vs := [(0, _), (2, _)]) (cs := [_, _, _]) hF bd43 rfl rfl rfl rfl) ?_; clear hF; intro a hF
    refine seq_wp (wn_none rfl) (wp_alloc (cs := #[_, _, _]) hF hS rfl rfl rfl zr43 rfl ?_)
    clear hF hS; intro a w g478 hF hS
    refine seq_wp (wn_none rfl) (wp_store (cs' := #[_, _, _]) hF hS rfl rfl rfl rfl 0 rfl sz43 (by simp [Value.cells, Value.oneCell']) (by simp [Value.cells]) rfl ?_)
    clear hF hS; intro a w hF hS
    refine wpList_nil ?_
    refine then_n ?_
    refine c_seq ?_
    refine c_seq ?_
    refine c_region ?_
    refine asN hF rfl rfl rfl rfl rfl ?_; clear hF; intro a hF
    refine wpList_nil ?_
    refine then_n ?_
    refine wp_block ?_
    replace hS := hS.addNil 67 2
    refine c_loop (fun m a w => ∃ (k : Nat) (AvR : Option Addr) (mv cvR : Nat), m = L.length - k ∧ (k ≤ L.length) ∧ Fr 77 a [(1, .int .i64 ((kk : Nat) : Int)), (2, .pointer (some ⟨g463, 0, none⟩)), (4, .pointer (some ⟨g464, 0, none⟩)), (6, .pointer (some ⟨g473, 0, none⟩)), (9, .pointer (some ⟨g478, 0, none⟩)), (10, .int .i64 ((k : Nat) : Int))] ∧ Sat w0 w (.box g463 43 #[.string st, .slice (some ad472) (L).length clv, .int .i64 (rm)] :: .box g473 67 #[.int .i64 (x471.f0), .string x471.f1] :: .box g478 43 #[.string (wim st (x471.f0) x471.f1), .slice AvR mv cvR, .int .i64 (rm)] :: .ro 2 (.slice (some ad472) (L).length clv) (L).length (cells enc67 (L)) :: .row 67 2 (.slice AvR mv cvR) ((selL x471.f0 (fun i => decide (i ≤ ((kk : Nat) : Int))) 0 (L.take k))).length (cells enc67 ((selL x471.f0 (fun i => decide (i ≤ ((kk : Nat) : Int))) 0 (L.take k)))) :: .box g464 43 #[.string (⟨#[]⟩ : ByteArray), .slice none 0 0, .int .i64 (0 : Int)] :: [])) (L.length - 0) ?_ ?_
    ·exact ⟨0, none, 0, 0, rfl, (Nat.zero_le _), hF.to [1, 2, 4, 6, 9, 10] rfl, (hS.sub [4, 2, 1, 5, 0, 3] (by decide) (by first | rfl | simp) (by simp))⟩
    ·clear hF hS; try clear hSS
     clear a w; rintro m a w ⟨k, AvR, mv, cvR, rfl, hinv, hF, hS⟩
     have hk : k ≤ L.length := hinv
     have hvl := len_selL (s := x471.f0) (old := (fun i => decide (i ≤ ((kk : Nat) : Int)))) (L.take k) 0
     have htl : (L.take k).length ≤ L.length := by simp; omega
     refine c_seq ?_
     refine c_seq ?_
     refine c_region ?_
     refine mvN hF rfl rfl rfl rfl rfl ?_; clear hF; intro a hF
     refine seq_yl hF (wn_none rfl) rfl rfl (yl_fieldAddr hF rfl rfl (fun w => by kernel_rfl : ∀ w, (Instr.fieldAt 43 (.pointer (some ⟨g463, 0, none⟩)) 1).run Try.prog w = .ok (.pointer (some ⟨g463, 1, none⟩)) w)) ?_; clear hF; intro a hF
     refine seq_yl hF (wn_none rfl) rfl rfl (yl_load (fun _ h => h ▸ hS) hF rfl rfl 0 rfl ag41 rfl) ?_; clear hF; intro a hF
     refine seq_yl hF (wn_none rfl) rfl rfl (yl_len hF rfl rfl (fun _ => run_lenRd sl41 (hS.rdRo 3 rfl))) ?_; clear hF; intro a hF
     refine seq_yl hF (wn_none rfl) rfl rfl (yl_bin hF rfl rfl rfl rfl (fun _ => run_lss)) ?_; clear hF; intro a hF
     refine wpList_nil ?_
     refine then_n ?_
     refine c_cond hF rfl (fun hc479 => ?_) (fun hc479 => ?_)
     ·first | (replace hc479 := of_decide_eq_true hc479) | (replace hc479 := of_decide_eq_false (bnot_t hc479)) | (subst hc479) | (replace hc479 := bnot_t hc479; subst hc479) | (replace hc479 := bnot_t hc479) | skip
      try (have hc479x := hc479; simp only [okS, okI, okW, okP] at hc479x)
      refine wp_skip ?_
      refine then_n ?_
      refine c_seq ?_
      refine wp_block ?_
      refine c_seq ?_
      refine ha_startS hS [0, 3, 1] 14 (by kernel_rfl) ?_; clear hS; intro w hS
      have hSS := hS.sub [0, 3, 1] (by decide) rfl (by simp)
      refine ha_y 0 hF rfl rfl rfl (wn_none rfl) (.inr hSS) (yl_move hF rfl rfl) ?_; clear hF; intro a hF
      refine ha_y 1 hF rfl rfl rfl (wn_none rfl) (.inr hSS) (yl_move hF rfl rfl) ?_; clear hF; intro a hF
      refine ha_y 2 hF rfl rfl rfl (wn_none rfl) (.inr hSS) (yl_bin hF rfl rfl rfl rfl (fun _ => run_gtr)) ?_; clear hF; intro a hF
      refine ha_y 3 hF rfl rfl rfl (wn_none rfl) (.inr hSS) (yl_move hF rfl rfl) ?_; clear hF; intro a hF
      refine fr_split hF (fun hc480 hF => ?_) (fun hc480 hF => ?_)
      ·first | (replace hc480 := of_decide_eq_true hc480) | (replace hc480 := of_decide_eq_false (bnot_t hc480)) | (subst hc480) | (replace hc480 := bnot_t hc480; subst hc480) | (replace hc480 := bnot_t hc480) | skip
       try (have hc480x := hc480; simp only [okS, okI, okW, okP] at hc480x)
       refine ha_s 4 hF rfl rfl rfl (wn_f hF rfl rfl rfl rfl) (.inr hSS) ?_; clear hF; intro a hF
       refine ha_s 5 hF rfl rfl rfl (wn_f hF rfl rfl rfl rfl) (.inr hSS) ?_; clear hF; intro a hF
       refine ha_s 6 hF rfl rfl rfl (wn_f hF rfl rfl rfl rfl) (.inr hSS) ?_; clear hF; intro a hF
       refine ha_s 7 hF rfl rfl rfl (wn_f hF rfl rfl rfl rfl) (.inr hSS) ?_; clear hF; intro a hF
       refine ha_s 8 hF rfl rfl rfl (wn_f hF rfl rfl rfl rfl) (.inr hSS) ?_; clear hF; intro a hF
       refine ha_s 9 hF rfl rfl rfl (wn_f hF rfl rfl rfl rfl) (.inr hSS) ?_; clear hF; intro a hF
       refine ha_s 10 hF rfl rfl rfl (wn_f hF rfl rfl rfl rfl) (.inr hSS) ?_; clear hF; intro a hF
       refine ha_s 11 hF rfl rfl rfl (wn_f hF rfl rfl rfl rfl) (.inr hSS) ?_; clear hF; intro a hF
       refine ha_s 12 hF rfl rfl rfl (wn_f hF rfl rfl rfl rfl) (.inr hSS) ?_; clear hF; intro a hF
       refine ha_y 13 hF rfl rfl rfl (wn_none rfl) (.inr hSS) (pkT hF rfl rfl rfl) ?_; clear hF; intro a hF
       refine ha_done (by kernel_rfl) ?_ _
       refine then_n ?_
       refine c_cond_t hF rfl ?_
       refine ha_startS hS [2, 0, 3] 10 (by kernel_rfl) ?_; clear hS; intro w hS
       have hSS := hS.sub [2, 0, 3] (by decide) rfl (by simp)
       refine ha_y 0 hF rfl rfl rfl (wn_none rfl) (.inr hSS) (yl_fieldAddr hF rfl rfl (fun w => by kernel_rfl : ∀ w, (Instr.fieldAt 43 (.pointer (some ⟨g478, 0, none⟩)) 1).run Try.prog w = .ok (.pointer (some ⟨g478, 1, none⟩)) w)) ?_; clear hF; intro a hF
       refine ha_y 2 hF rfl rfl rfl (wn_none rfl) (.inr hSS) (yl_fieldAddr hF rfl rfl (fun w => by kernel_rfl : ∀ w, (Instr.fieldAt 43 (.pointer (some ⟨g463, 0, none⟩)) 1).run Try.prog w = .ok (.pointer (some ⟨g463, 1, none⟩)) w)) ?_; clear hF; intro a hF
       refine ha_y 4 hF rfl rfl rfl (wn_none rfl) (.inr hSS) (yl_move hF rfl rfl) ?_; clear hF; intro a hF
       refine ha_l 1 hF rfl rfl rfl (wn_none rfl) hSS (yl_load (fun _ h => h) hF rfl rfl 0 rfl ag41 rfl) ?_; clear hF; intro a hF
       refine ha_l 3 hF rfl rfl rfl (wn_none rfl) hSS (yl_load (fun _ h => h) hF rfl rfl 1 rfl ag41 rfl) ?_; clear hF; intro a hF
       have hlt_hx481 : k < (L).length := by first | omega | (simp; done) | (simp; omega)
       obtain ⟨x481, hx481⟩ := get_some hlt_hx481
       refine ha_y 5 hF rfl rfl rfl (wn_none rfl) (.inr hSS) (yl_indexAddr hF rfl rfl rfl (fun _ => run_idx' sl41 sz67 (hS.rdRo 3 rfl) hlt_hx481)) ?_; clear hF; intro a hF
       refine ha_l 6 hF rfl rfl rfl (wn_none rfl) hSS (yl_loadEl (rs := [.int .i64 (x481.f0), .string x481.f1]) hF rfl rfl ag67 sz67 rfl (fun _ h => rd_cells (enc := enc67) (Sat.rdRo h 2 rfl) enc67_len hx481)) ?_; clear hF; intro a hF
       refine ha_one 7 (by kernel_rfl) rfl (wn_none rfl) (wp_bslice (parts := [(0, .tmp 72)]) (vs := [(0, _)]) (enc := enc67) (e := 67) (size := 2) (cs := #[.int .i64 (x481.f0), .string x481.f1]) hF hS rfl rfl rfl rfl ([(E67.mk (x481.f0) x481.f1)] : List E67) (fun w => by kernel_rfl) rfl rfl rfl (by decide) ?_)
       clear hF hS; intro a w v482 hF hS
       obtain ⟨Av482, cv482, rfl⟩ := hS.form 0 rfl
       replace hSS := hS.sub [3, 1, 4] (by decide) rfl (by simp)
       refine ⟨.inr hSS, ?_⟩
       refine ha_one 8 (by kernel_rfl) rfl (wn_none rfl) (wp_app (enc := enc67) hF hS rfl rfl rfl rfl rfl 5 rfl sl41 inf67 rfl (by decide) (hS.rdRow 0 rfl) enc67_one (by decide) (by first | omega | (simp only [List.length_append, List.length_cons, List.length_nil]; omega) | (simp; omega)) ?_)
       clear hF hS; intro a w v483 hF hS
       obtain ⟨Av483, cv483, rfl⟩ := hS.form 5 rfl
       replace hSS := hS.sub [3, 1, 4] (by decide) rfl (by simp)
       refine ⟨.inr hSS, ?_⟩
       refine ha_y 9 hF rfl rfl rfl (wn_none rfl) (.inr hSS) (yl_fieldAddr hF rfl rfl (fun w => by kernel_rfl : ∀ w, (Instr.fieldAt 43 (.pointer (some ⟨g478, 0, none⟩)) 1).run Try.prog w = .ok (.pointer (some ⟨g478, 1, none⟩)) w)) ?_; clear hF; intro a hF
       refine ha_one 10 (by kernel_rfl) rfl (wn_none rfl) (wp_store (cs' := #[_, _, _]) hF hS rfl rfl rfl rfl 3 rfl sz41 (by simp [Value.cells, Value.oneCell']) (by simp [Value.cells]) rfl ?_)
       clear hF hS; intro a w hF hS
       refine ⟨.inl (by kernel_rfl), ?_⟩
       refine ha_done (by kernel_rfl) ?_ _
       refine inb_n ?_
       refine then_n ?_
       refine c_region ?_
       refine mvN hF rfl rfl rfl rfl rfl ?_; clear hF; intro a hF
       refine seq_yl hF (wn_none rfl) rfl rfl (yl_bin hF rfl rfl rfl rfl (fun _ => run_inc (by omega))) ?_; clear hF; intro a hF
       refine asN hF rfl rfl rfl rfl rfl ?_; clear hF; intro a hF
       refine wpList_nil ?_
       refine then_n ?_
       rw [selL_in (s := x471.f0) (old := (fun i => decide (i ≤ ((kk : Nat) : Int)))) hx481 (by first | exact .inl (by assumption) | exact .inr (decide_eq_false (by omega)))] at hS hF
       exact ⟨_, (by omega), k + 1, Av483, _, cv483, rfl, (show _ ≤ _ by omega), hF.to [1, 2, 4, 6, 9, 10] rfl, (hS.sub [1, 2, 3, 4, 5, 6] (by decide) (by first | rfl | simp) (by simp))⟩
      ·first | (replace hc480 := of_decide_eq_false hc480) | (replace hc480 := of_decide_eq_true (bnot_f hc480)) | (subst hc480) | (replace hc480 := bnot_f hc480; subst hc480) | (replace hc480 := bnot_f hc480) | skip
       try (have hc480x := hc480; simp only [okS, okI, okW, okP] at hc480x)
       refine ha_y 4 hF rfl rfl rfl (wn_t hF rfl rfl rfl rfl) (.inr hSS) (yl_fieldAddr hF rfl rfl (fun w => by kernel_rfl : ∀ w, (Instr.fieldAt 43 (.pointer (some ⟨g463, 0, none⟩)) 1).run Try.prog w = .ok (.pointer (some ⟨g463, 1, none⟩)) w)) ?_; clear hF; intro a hF
       refine ha_y 6 hF rfl rfl rfl (wn_t hF rfl rfl rfl rfl) (.inr hSS) (yl_move hF rfl rfl) ?_; clear hF; intro a hF
       refine ha_y 10 hF rfl rfl rfl (wn_t hF rfl rfl rfl rfl) (.inr hSS) (yl_fieldAddr hF rfl rfl (fun w => by kernel_rfl : ∀ w, (Instr.fieldAt 67 (.pointer (some ⟨g473, 0, none⟩)) 0).run Try.prog w = .ok (.pointer (some ⟨g473, 0, none⟩)) w)) ?_; clear hF; intro a hF
       refine ha_l 5 hF rfl rfl rfl (wn_t hF rfl rfl rfl rfl) hSS (yl_load (fun _ h => h) hF rfl rfl 0 rfl ag41 rfl) ?_; clear hF; intro a hF
       have hlt_hx484 : k < (L).length := by first | omega | (simp; done) | (simp; omega)
       obtain ⟨x484, hx484⟩ := get_some hlt_hx484
       refine ha_y 7 hF rfl rfl rfl (wn_t hF rfl rfl rfl rfl) (.inr hSS) (yl_indexAddr hF rfl rfl rfl (fun _ => run_idx' sl41 sz67 (hS.rdRo 3 rfl) hlt_hx484)) ?_; clear hF; intro a hF
       refine ha_y 8 hF rfl rfl rfl (wn_t hF rfl rfl rfl rfl) (.inr hSS) (yl_fieldAddr hF rfl rfl (fun w => run_fa0 fo67_0)) ?_; clear hF; intro a hF
       refine ha_l 9 hF rfl rfl rfl (wn_t hF rfl rfl rfl rfl) hSS (yl_loadAt hF rfl rfl ag3 (fun _ h => rd_cell0 (enc := enc67) (Sat.rdRo h 1 rfl) enc67_len hx484 rfl rfl)) ?_; clear hF; intro a hF
       refine ha_l 11 hF rfl rfl rfl (wn_t hF rfl rfl rfl rfl) hSS (yl_load (fun _ h => h) hF rfl rfl 2 rfl ag3 rfl) ?_; clear hF; intro a hF
       refine ha_y 12 hF rfl rfl rfl (wn_t hF rfl rfl rfl rfl) (.inr hSS) (yl_bin hF rfl rfl rfl rfl (fun _ => run_neq)) ?_; clear hF; intro a hF
       refine ha_y 13 hF rfl rfl rfl (wn_none rfl) (.inr hSS) (pkF hF rfl rfl rfl) ?_; clear hF; intro a hF
       refine ha_done (by kernel_rfl) ?_ _
       refine then_n ?_
       refine c_cond hF rfl (fun hc485 => ?_) (fun hc485 => ?_)
       ·first | (replace hc485 := of_decide_eq_true hc485) | (replace hc485 := of_decide_eq_false (bnot_t hc485)) | (subst hc485) | (replace hc485 := bnot_t hc485; subst hc485) | (replace hc485 := bnot_t hc485) | skip
        try (have hc485x := hc485; simp only [okS, okI, okW, okP] at hc485x)
        refine ha_startS hS [2, 0, 3] 10 (by kernel_rfl) ?_; clear hS; intro w hS
        have hSS := hS.sub [2, 0, 3] (by decide) rfl (by simp)
        refine ha_y 0 hF rfl rfl rfl (wn_none rfl) (.inr hSS) (yl_fieldAddr hF rfl rfl (fun w => by kernel_rfl : ∀ w, (Instr.fieldAt 43 (.pointer (some ⟨g478, 0, none⟩)) 1).run Try.prog w = .ok (.pointer (some ⟨g478, 1, none⟩)) w)) ?_; clear hF; intro a hF
        refine ha_y 2 hF rfl rfl rfl (wn_none rfl) (.inr hSS) (yl_fieldAddr hF rfl rfl (fun w => by kernel_rfl : ∀ w, (Instr.fieldAt 43 (.pointer (some ⟨g463, 0, none⟩)) 1).run Try.prog w = .ok (.pointer (some ⟨g463, 1, none⟩)) w)) ?_; clear hF; intro a hF
        refine ha_y 4 hF rfl rfl rfl (wn_none rfl) (.inr hSS) (yl_move hF rfl rfl) ?_; clear hF; intro a hF
        refine ha_l 1 hF rfl rfl rfl (wn_none rfl) hSS (yl_load (fun _ h => h) hF rfl rfl 0 rfl ag41 rfl) ?_; clear hF; intro a hF
        refine ha_l 3 hF rfl rfl rfl (wn_none rfl) hSS (yl_load (fun _ h => h) hF rfl rfl 1 rfl ag41 rfl) ?_; clear hF; intro a hF
        refine ha_y 5 hF rfl rfl rfl (wn_none rfl) (.inr hSS) (yl_indexAddr hF rfl rfl rfl (fun _ => run_idx' sl41 sz67 (hS.rdRo 3 rfl) hlt_hx484)) ?_; clear hF; intro a hF
        refine ha_l 6 hF rfl rfl rfl (wn_none rfl) hSS (yl_loadEl (rs := [.int .i64 (x484.f0), .string x484.f1]) hF rfl rfl ag67 sz67 rfl (fun _ h => rd_cells (enc := enc67) (Sat.rdRo h 2 rfl) enc67_len hx484)) ?_; clear hF; intro a hF
        refine ha_one 7 (by kernel_rfl) rfl (wn_none rfl) (wp_bslice (parts := [(0, .tmp 72)]) (vs := [(0, _)]) (enc := enc67) (e := 67) (size := 2) (cs := #[.int .i64 (x484.f0), .string x484.f1]) hF hS rfl rfl rfl rfl ([(E67.mk (x484.f0) x484.f1)] : List E67) (fun w => by kernel_rfl) rfl rfl rfl (by decide) ?_)
        clear hF hS; intro a w v486 hF hS
        obtain ⟨Av486, cv486, rfl⟩ := hS.form 0 rfl
        replace hSS := hS.sub [3, 1, 4] (by decide) rfl (by simp)
        refine ⟨.inr hSS, ?_⟩
        refine ha_one 8 (by kernel_rfl) rfl (wn_none rfl) (wp_app (enc := enc67) hF hS rfl rfl rfl rfl rfl 5 rfl sl41 inf67 rfl (by decide) (hS.rdRow 0 rfl) enc67_one (by decide) (by first | omega | (simp only [List.length_append, List.length_cons, List.length_nil]; omega) | (simp; omega)) ?_)
        clear hF hS; intro a w v487 hF hS
        obtain ⟨Av487, cv487, rfl⟩ := hS.form 5 rfl
        replace hSS := hS.sub [3, 1, 4] (by decide) rfl (by simp)
        refine ⟨.inr hSS, ?_⟩
        refine ha_y 9 hF rfl rfl rfl (wn_none rfl) (.inr hSS) (yl_fieldAddr hF rfl rfl (fun w => by kernel_rfl : ∀ w, (Instr.fieldAt 43 (.pointer (some ⟨g478, 0, none⟩)) 1).run Try.prog w = .ok (.pointer (some ⟨g478, 1, none⟩)) w)) ?_; clear hF; intro a hF
        refine ha_one 10 (by kernel_rfl) rfl (wn_none rfl) (wp_store (cs' := #[_, _, _]) hF hS rfl rfl rfl rfl 3 rfl sz41 (by simp [Value.cells, Value.oneCell']) (by simp [Value.cells]) rfl ?_)
        clear hF hS; intro a w hF hS
        refine ⟨.inl (by kernel_rfl), ?_⟩
        refine ha_done (by kernel_rfl) ?_ _
        refine inb_n ?_
        refine then_n ?_
        refine c_region ?_
        refine mvN hF rfl rfl rfl rfl rfl ?_; clear hF; intro a hF
        refine seq_yl hF (wn_none rfl) rfl rfl (yl_bin hF rfl rfl rfl rfl (fun _ => run_inc (by omega))) ?_; clear hF; intro a hF
        refine asN hF rfl rfl rfl rfl rfl ?_; clear hF; intro a hF
        refine wpList_nil ?_
        refine then_n ?_
        rw [selL_in (s := x471.f0) (old := (fun i => decide (i ≤ ((kk : Nat) : Int)))) hx484 (by first | exact .inl (by assumption) | exact .inr (decide_eq_false (by omega)))] at hS hF
        exact ⟨_, (by omega), k + 1, Av487, _, cv487, rfl, (show _ ≤ _ by omega), hF.to [1, 2, 4, 6, 9, 10] rfl, (hS.sub [1, 2, 3, 4, 5, 6] (by decide) (by first | rfl | simp) (by simp))⟩
       ·first | (replace hc485 := of_decide_eq_false hc485) | (replace hc485 := of_decide_eq_true (bnot_f hc485)) | (subst hc485) | (replace hc485 := bnot_f hc485; subst hc485) | (replace hc485 := bnot_f hc485) | skip
        try (have hc485x := hc485; simp only [okS, okI, okW, okP] at hc485x)
        refine wp_skip ?_
        refine inb_n ?_
        refine then_n ?_
        refine c_region ?_
        refine mvN hF rfl rfl rfl rfl rfl ?_; clear hF; intro a hF
        refine seq_yl hF (wn_none rfl) rfl rfl (yl_bin hF rfl rfl rfl rfl (fun _ => run_inc (by omega))) ?_; clear hF; intro a hF
        refine asN hF rfl rfl rfl rfl rfl ?_; clear hF; intro a hF
        refine wpList_nil ?_
        refine then_n ?_
        rw [selL_out (s := x471.f0) (old := (fun i => decide (i ≤ ((kk : Nat) : Int)))) hx484 (by omega) (decide_eq_true (by omega))] at hS
        exact ⟨_, (by omega), k + 1, AvR, _, cvR, rfl, (show _ ≤ _ by omega), hF.to [1, 2, 4, 6, 9, 10] rfl, (hS.sub [0, 1, 2, 3, 4, 5] (by decide) (by first | rfl | simp) (by simp))⟩
     ·first | (replace hc479 := of_decide_eq_false hc479) | (replace hc479 := of_decide_eq_true (bnot_f hc479)) | (subst hc479) | (replace hc479 := bnot_f hc479; subst hc479) | (replace hc479 := bnot_f hc479) | skip
      try (have hc479x := hc479; simp only [okS, okI, okW, okP] at hc479x)
      refine wp_exit ?_
      refine then_x ?_
      refine then_x ?_
      refine inb_x ?_
      refine then_n ?_
      refine c_seq ?_
      refine c_region ?_
      refine seq_yl hF (wn_none rfl) rfl rfl (yl_loadK (rs := [_, _, _]) (fun _ h => h ▸ hS) hF rfl rfl 2 rfl ag43 sz43 rfl rfl) ?_; clear hF; intro a hF
      refine seq_wp (wn_none rfl) (wp_store (cs' := #[_, _, _]) hF hS rfl rfl rfl rfl 5 rfl sz43 (by simp [Value.cells, Value.oneCell']) (by simp [Value.cells]) rfl ?_)
      clear hF hS; intro a w hF hS
      refine asN hF rfl rfl rfl rfl rfl ?_; clear hF; intro a hF
      refine wpList_nil ?_
      refine then_n ?_
      refine wp_ret ?_
      refine ret_ct hF rfl (resC hS rfl 5 rfl ag43 sz43) rfl ?_
      rw [show L.take k = L from List.take_of_length_le (by omega)] at hS
      exact ⟨_, rfl, _, _, _, _, _, rfl, destF_at (‹okD st L rm› : okD st L rm) hx471, (hS.sub [4] (by decide) (by first | rfl | simp) (by simp))⟩

end Go.Proofs.Ytkejcnhfbfgphaa

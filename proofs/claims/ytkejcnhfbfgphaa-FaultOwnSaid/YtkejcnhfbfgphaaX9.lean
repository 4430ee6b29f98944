/- walks, printed by wip/gen -/
import Derived.Test.YtkejcnhfbfgphaaX8
import Derived.Test.YtkejcnhfbfgphaaX5
namespace Go.Proofs.Ytkejcnhfbfgphaa
open Go.RowKit
set_option linter.unusedVariables false
set_option linter.unusedSimpArgs false

set_option maxRecDepth 100000 in
theorem copied_any (st : ByteArray) (lv : Value) (L : List E67) (rm : Int) (w0 : World) (hv : Rd w0 2 lv (L).length (cells enc67 (L))) (hL : L.length ≤ 1000000) :
  Fn Try.prog 66 #[.agg #[.string st, lv, .int .i64 rm]] w0 (fun v w' => ∃ lv1, v = .agg #[.string st, lv1, .int .i64 rm] ∧ Sat w0 w' [.row 67 2 lv1 (L).length (cells enc67 (L))]) := by
 obtain ⟨Alv, clv, rfl⟩ := Rd.form hv
 refine c_enter (N := 8) (l := [_]) Try.func66 rfl rfl (fun a w hF hS => ?_)
 replace hS := hS.addRo hv
 refine c_seq ?_
 refine c_region ?_
 refine seq_wp (wn_none rfl) (wp_box (cs := #[_, _, _]) hF hS rfl rfl rfl rfl rfl ?_)
 clear hF hS; intro a w g620 hF hS
 refine seq_wp (wn_none rfl) (wp_alloc (cs := #[_, _, _]) hF hS rfl rfl rfl zr43 rfl ?_)
 clear hF hS; intro a w g621 hF hS
 refine wpList_nil ?_
 refine then_n ?_
 refine c_seq ?_
 refine c_region ?_
 refine seq_yl hF (wn_none rfl) rfl rfl (yl_fieldAddr hF rfl rfl (fun w => by kernel_rfl : ∀ w, (Instr.fieldAt 43 (.pointer (some ⟨g620, 0, none⟩)) 1).run Try.prog w = .ok (.pointer (some ⟨g620, 1, none⟩)) w)) ?_; clear hF; intro a hF
 refine seq_yl hF (wn_none rfl) rfl rfl (yl_load (fun _ h => h ▸ hS) hF rfl rfl 1 rfl ag41 rfl) ?_; clear hF; intro a hF
 refine seq_wp (wn_none rfl) (wp_call (vs := [_]) hF rfl rfl rfl rfl cf38 (cloneP_any _ _ _ (hS.rdRo 2 rfl) (by first | omega | (simp; done) | (simp; omega))) ?_)
 clear hF; rintro _ w ⟨v622, rfl, hS1⟩ a hF
 replace hS := hS.callB hS1 rfl; clear hS1
 obtain ⟨Av622, cv622, rfl⟩ := hS.form 0 rfl
 refine seq_yl hF (wn_none rfl) rfl rfl (yl_fieldAddr hF rfl rfl (fun w => by kernel_rfl : ∀ w, (Instr.fieldAt 43 (.pointer (some ⟨g620, 0, none⟩)) 1).run Try.prog w = .ok (.pointer (some ⟨g620, 1, none⟩)) w)) ?_; clear hF; intro a hF
 refine seq_wp (wn_none rfl) (wp_store (cs' := #[_, _, _]) hF hS rfl rfl rfl rfl 2 rfl sz41 (by simp [Value.cells, Value.oneCell']) (by simp [Value.cells]) rfl ?_)
 clear hF hS; intro a w hF hS
 refine wpList_nil ?_
 refine then_n ?_
 refine c_seq ?_
 refine c_region ?_
 refine seq_yl hF (wn_none rfl) rfl rfl (yl_loadK (rs := [_, _, _]) (fun _ h => h ▸ hS) hF rfl rfl 2 rfl ag43 sz43 rfl rfl) ?_; clear hF; intro a hF
 refine seq_wp (wn_none rfl) (wp_store (cs' := #[_, _, _]) hF hS rfl rfl rfl rfl 1 rfl sz43 (by simp [Value.cells, Value.oneCell']) (by simp [Value.cells]) rfl ?_)
 clear hF hS; intro a w hF hS
 refine wpList_nil ?_
 refine then_n ?_
 refine wp_ret ?_
 refine ret_c hF rfl (resC hS rfl 1 rfl ag43 sz43) ?_
 exact ⟨_, rfl, _, rfl, (hS.sub [0] (by decide) (by first | rfl | simp) (by simp))⟩

set_option maxHeartbeats 2000000 in
set_option maxRecDepth 100000 in
theorem write_any (st : ByteArray) (lv : Value) (L : List E67) (rm : Int) (s : Int) (x : ByteArray) (fua : Bool) (w0 : World) (hv : Rd w0 2 lv (L).length (cells enc67 (L))) (hz : (st.size : Int) ≤ 9223372036854775807) (hL : L.length ≤ 1000000) (hx : (x.size : Int) ≤ 9223372036854775807) :
  Fn Try.prog 42 #[.agg #[.string st, lv, .int .i64 rm], .int .i64 s, .string x, .bool fua] w0 (fun v w' => ∃ (st1 : ByteArray) (lv1 : Value) (L1 : List E67) (rm1 : Int) (b : Bool), v = .tuple #[.agg #[.string st1, lv1, .int .i64 rm1], .bool b] ∧ writeF st L rm s x fua = (st1, L1, rm1, b) ∧ Sat w0 w' [.row 67 2 lv1 (L1).length (cells enc67 (L1))]) := by
 obtain ⟨Alv, clv, rfl⟩ := Rd.form hv
 refine c_enter (N := 59) (l := [_, _, _, _]) Try.func42 rfl rfl (fun a w hF hS => ?_)
 replace hS := hS.addRo hv
 refine c_seq ?_
 refine c_region ?_
 refine seq_wp (wn_none rfl) (wp_box (cs := #[_, _, _]) hF hS rfl rfl rfl rfl rfl ?_)
 clear hF hS; intro a w g623 hF hS
 refine seq_wp (wn_none rfl) (wp_alloc (cs := #[_, _, _]) hF hS rfl rfl rfl zr43 rfl ?_)
 clear hF hS; intro a w g624 hF hS
 refine asN hF rfl rfl rfl rfl rfl ?_; clear hF; intro a hF
 refine wpList_nil ?_
 refine then_n ?_
 refine c_seq ?_
 refine c_region ?_
 refine mvN hF rfl rfl rfl rfl rfl ?_; clear hF; intro a hF
 refine seq_yl hF (wn_none rfl) rfl rfl (yl_len hF rfl rfl (fun _ => run_lenStr Try.underlying9)) ?_; clear hF; intro a hF
 refine seq_yl hF (wn_none rfl) rfl rfl (yl_bin hF rfl rfl rfl rfl (fun _ => run_quoN (by omega) (by omega) (by omega))) ?_; clear hF; intro a hF
 refine asN hF rfl rfl rfl rfl rfl ?_; clear hF; intro a hF
 refine wpList_nil ?_
 refine then_n ?_
 refine c_seq ?_
 refine c_seq ?_
 refine c_region ?_
 refine seq_yl hF (wn_none rfl) rfl rfl (yl_loadK (rs := [_, _, _]) (fun _ h => h ▸ hS) hF rfl rfl 1 rfl ag43 sz43 rfl rfl) ?_; clear hF; intro a hF
 refine seq_wp (wn_none rfl) (wp_call (vs := [_]) hF rfl rfl rfl rfl cf60 (dValid_any st _ L (rm) _ (hS.rdRo 2 rfl) (by first | omega | (simp; done)) (by first | omega | (simp; done))) ?_)
 clear hF; rintro _ w ⟨rfl, hS1⟩ a hF
 replace hS := hS.callB hS1 rfl; clear hS1
 refine seq_yl hF (wn_none rfl) rfl rfl (yl_un hF rfl rfl (fun _ => run_not)) ?_; clear hF; intro a hF
 refine mvN hF rfl rfl rfl rfl rfl ?_; clear hF; intro a hF
 refine fr_split hF (fun hc625 hF => ?_) (fun hc625 hF => ?_)
 ·first | (replace hc625 := of_decide_eq_true hc625) | (replace hc625 := of_decide_eq_false (bnot_t hc625)) | (replace hc625 := bnot_t hc625) | skip
  try (have hc625x := hc625; simp only [okS, okI, okW, okP] at hc625x)
  refine skF hF rfl rfl rfl rfl rfl rfl ?_; clear hF; intro a hF
  refine skF hF rfl rfl rfl rfl rfl rfl ?_; clear hF; intro a hF
  refine skF hF rfl rfl rfl rfl rfl rfl ?_; clear hF; intro a hF
  refine skF hF rfl rfl rfl rfl rfl rfl ?_; clear hF; intro a hF
  refine seq_yl hF (wn_none rfl) rfl rfl (pkT hF rfl rfl rfl) ?_; clear hF; intro a hF
  refine mvN hF rfl rfl rfl rfl rfl ?_; clear hF; intro a hF
  refine skF hF rfl rfl rfl rfl rfl rfl ?_; clear hF; intro a hF
  refine skF hF rfl rfl rfl rfl rfl rfl ?_; clear hF; intro a hF
  refine skF hF rfl rfl rfl rfl rfl rfl ?_; clear hF; intro a hF
  refine skF hF rfl rfl rfl rfl rfl rfl ?_; clear hF; intro a hF
  refine skF hF rfl rfl rfl rfl rfl rfl ?_; clear hF; intro a hF
  refine seq_yl hF (wn_none rfl) rfl rfl (pkT hF rfl rfl rfl) ?_; clear hF; intro a hF
  refine wpList_nil ?_
  refine then_n ?_
  refine c_cond_t hF rfl ?_
  refine c_seq ?_
  refine c_region ?_
  refine seq_yl hF (wn_none rfl) rfl rfl (yl_build (parts := []) (vs := []) (cs := [_, _, _]) hF bd43 rfl rfl rfl rfl) ?_; clear hF; intro a hF
  refine seq_wp (wn_none rfl) (wp_store (cs' := #[_, _, _]) hF hS rfl rfl rfl rfl 0 rfl sz43 (by simp [Value.cells, Value.oneCell']) (by simp [Value.cells]) rfl ?_)
  clear hF hS; intro a w hF hS
  refine asN hF rfl rfl rfl rfl rfl ?_; clear hF; intro a hF
  refine wpList_nil ?_
  refine then_n ?_
  refine wp_ret ?_
  refine then_r ?_
  refine ret_ct hF rfl (resC hS rfl 0 rfl ag43 sz43) rfl ?_
  replace hS := hS.addNil 67 2
  exact ⟨_, rfl, _, _, [], _, _, rfl, wr_bad (fun h9 => by have h8 := h9.2; have h7 := okD_I h9.1; simp only [okW, okS, okI] at h8; first | exact absurd h9.1 (by assumption) | exact absurd h9.2.1 (by assumption) | omega), (hS.sub [0] (by decide) (by first | rfl | simp) (by simp))⟩
 ·first | (replace hc625 := of_decide_eq_false hc625) | (replace hc625 := of_decide_eq_true (bnot_f hc625)) | (replace hc625 := bnot_f hc625) | skip
  try (have hc625x := hc625; simp only [okS, okI, okW, okP] at hc625x)
  refine seq_yl hF (wn_t hF rfl rfl rfl rfl) rfl rfl (yl_move hF rfl rfl) ?_; clear hF; intro a hF
  refine seq_yl hF (wn_t hF rfl rfl rfl rfl) rfl rfl (yl_len hF rfl rfl (fun _ => run_lenStr Try.underlying9)) ?_; clear hF; intro a hF
  refine seq_yl hF (wn_t hF rfl rfl rfl rfl) rfl rfl (yl_bin hF rfl rfl rfl rfl (fun _ => run_remN (by omega) (by omega))) ?_; clear hF; intro a hF
  refine seq_yl hF (wn_t hF rfl rfl rfl rfl) rfl rfl (yl_bin hF rfl rfl rfl rfl (fun _ => run_neq)) ?_; clear hF; intro a hF
  refine seq_yl hF (wn_none rfl) rfl rfl (pkF hF rfl rfl rfl) ?_; clear hF; intro a hF
  refine mvN hF rfl rfl rfl rfl rfl ?_; clear hF; intro a hF
  refine fr_split hF (fun hc627 hF => ?_) (fun hc627 hF => ?_)
  ·first | (replace hc627 := of_decide_eq_true hc627) | (replace hc627 := of_decide_eq_false (bnot_t hc627)) | (replace hc627 := bnot_t hc627) | skip
   try (have hc627x := hc627; simp only [okS, okI, okW, okP] at hc627x)
   refine skF hF rfl rfl rfl rfl rfl rfl ?_; clear hF; intro a hF
   refine skF hF rfl rfl rfl rfl rfl rfl ?_; clear hF; intro a hF
   refine skF hF rfl rfl rfl rfl rfl rfl ?_; clear hF; intro a hF
   refine skF hF rfl rfl rfl rfl rfl rfl ?_; clear hF; intro a hF
   refine skF hF rfl rfl rfl rfl rfl rfl ?_; clear hF; intro a hF
   refine seq_yl hF (wn_none rfl) rfl rfl (pkT hF rfl rfl rfl) ?_; clear hF; intro a hF
   refine wpList_nil ?_
   refine then_n ?_
   refine c_cond_t hF rfl ?_
   refine c_seq ?_
   refine c_region ?_
   refine seq_yl hF (wn_none rfl) rfl rfl (yl_build (parts := []) (vs := []) (cs := [_, _, _]) hF bd43 rfl rfl rfl rfl) ?_; clear hF; intro a hF
   refine seq_wp (wn_none rfl) (wp_store (cs' := #[_, _, _]) hF hS rfl rfl rfl rfl 0 rfl sz43 (by simp [Value.cells, Value.oneCell']) (by simp [Value.cells]) rfl ?_)
   clear hF hS; intro a w hF hS
   refine asN hF rfl rfl rfl rfl rfl ?_; clear hF; intro a hF
   refine wpList_nil ?_
   refine then_n ?_
   refine wp_ret ?_
   refine then_r ?_
   refine ret_ct hF rfl (resC hS rfl 0 rfl ag43 sz43) rfl ?_
   replace hS := hS.addNil 67 2
   exact ⟨_, rfl, _, _, [], _, _, rfl, wr_bad (fun h9 => by have h8 := h9.2; have h7 := okD_I h9.1; simp only [okW, okS, okI] at h8; first | exact absurd h9.1 (by assumption) | exact absurd h9.2.1 (by assumption) | omega), (hS.sub [0] (by decide) (by first | rfl | simp) (by simp))⟩
  ·first | (replace hc627 := of_decide_eq_false hc627) | (replace hc627 := of_decide_eq_true (bnot_f hc627)) | (replace hc627 := bnot_f hc627) | skip
   try (have hc627x := hc627; simp only [okS, okI, okW, okP] at hc627x)
   refine seq_yl hF (wn_t hF rfl rfl rfl rfl) rfl rfl (yl_loadK (rs := [_, _, _]) (fun _ h => h ▸ hS) hF rfl rfl 1 rfl ag43 sz43 rfl rfl) ?_; clear hF; intro a hF
   refine seq_yl hF (wn_t hF rfl rfl rfl rfl) rfl rfl (yl_move hF rfl rfl) ?_; clear hF; intro a hF
   refine seq_yl hF (wn_t hF rfl rfl rfl rfl) rfl rfl (yl_move hF rfl rfl) ?_; clear hF; intro a hF
   refine seq_wp (wn_t hF rfl rfl rfl rfl) (wp_call (vs := [_, _, _]) hF rfl rfl rfl rfl cf61 (has_any st _ _ (s) (((((x).size : Nat) : Int) / (8 : Int))) _ (by omega)) ?_)
   clear hF; rintro _ w ⟨rfl, hS1⟩ a hF
   replace hS := hS.callB hS1 rfl; clear hS1
   refine seq_yl hF (wn_t hF rfl rfl rfl rfl) rfl rfl (yl_un hF rfl rfl (fun _ => run_not)) ?_; clear hF; intro a hF
   refine seq_yl hF (wn_none rfl) rfl rfl (pkF hF rfl rfl rfl) ?_; clear hF; intro a hF
   refine wpList_nil ?_
   refine then_n ?_
   refine c_cond hF rfl (fun hc629 => ?_) (fun hc629 => ?_)
   ·first | (replace hc629 := of_decide_eq_true hc629) | (replace hc629 := of_decide_eq_false (bnot_t hc629)) | (replace hc629 := bnot_t hc629) | skip
    try (have hc629x := hc629; simp only [okS, okI, okW, okP] at hc629x)
    refine c_seq ?_
    refine c_region ?_
    refine seq_yl hF (wn_none rfl) rfl rfl (yl_build (parts := []) (vs := []) (cs := [_, _, _]) hF bd43 rfl rfl rfl rfl) ?_; clear hF; intro a hF
    refine seq_wp (wn_none rfl) (wp_store (cs' := #[_, _, _]) hF hS rfl rfl rfl rfl 0 rfl sz43 (by simp [Value.cells, Value.oneCell']) (by simp [Value.cells]) rfl ?_)
    clear hF hS; intro a w hF hS
    refine asN hF rfl rfl rfl rfl rfl ?_; clear hF; intro a hF
    refine wpList_nil ?_
    refine then_n ?_
    refine wp_ret ?_
    refine then_r ?_
    refine ret_ct hF rfl (resC hS rfl 0 rfl ag43 sz43) rfl ?_
    replace hS := hS.addNil 67 2
    exact ⟨_, rfl, _, _, [], _, _, rfl, wr_bad (fun h9 => by have h8 := h9.2; have h7 := okD_I h9.1; simp only [okW, okS, okI] at h8; first | exact absurd h9.1 (by assumption) | exact absurd h9.2.1 (by assumption) | omega), (hS.sub [0] (by decide) (by first | rfl | simp) (by simp))⟩
   ·first | (replace hc629 := of_decide_eq_false hc629) | (replace hc629 := of_decide_eq_true (bnot_f hc629)) | (replace hc629 := bnot_f hc629) | skip
    try (have hc629x := hc629; simp only [okS, okI, okW, okP] at hc629x)
    refine wp_skip ?_
    refine then_n ?_
    refine c_seq ?_
    refine c_region ?_
    refine seq_yl hF (wn_none rfl) rfl rfl (yl_loadK (rs := [_, _, _]) (fun _ h => h ▸ hS) hF rfl rfl 1 rfl ag43 sz43 rfl rfl) ?_; clear hF; intro a hF
    refine seq_yl hF (wn_none rfl) rfl rfl (yl_build (parts := [(0, .tmp 33)]) (vs := [(0, _)]) (cs := [_, _, _]) hF bd93 rfl rfl rfl rfl) ?_; clear hF; intro a hF
    refine seq_wp (wn_none rfl) (wp_box (cs := #[_, _, _]) hF hS rfl rfl rfl rfl rfl ?_)
    clear hF hS; intro a w g631 hF hS
    refine asN hF rfl rfl rfl rfl rfl ?_; clear hF; intro a hF
    refine wpList_nil ?_
    refine then_n ?_
    refine c_seq ?_
    refine c_seq ?_
    refine c_region ?_
    refine mvN hF rfl rfl rfl rfl rfl ?_; clear hF; intro a hF
    refine mvN hF rfl rfl rfl rfl rfl ?_; clear hF; intro a hF
    refine wpList_nil ?_
    refine then_n ?_
    refine wp_block ?_
    have hd9 : okD st L rm := by assumption
    have hw9 : okW (st.size : Int) s (x.size : Int) := by have h8 := okD_I hd9; unfold okW okS okI; first | omega | (refine ⟨by assumption, by omega⟩)
    have hw9x := hw9
    simp only [okW, okS, okI] at hw9x
    refine c_loop (fun m a w => ∃ (k : Nat) (st1 : ByteArray) (L1 : List E67) (AvW : Option Addr) (cvW : Nat), m = ((x.size : Int) / 8 - (k : Int)).toNat ∧ ((k : Int) ≤ (x.size : Int) / 8 ∧ wrN st L rm s x fua k = (st1, L1)) ∧ Fr 59 a [(1, .int .i64 (s)), (2, .string x), (3, .bool fua), (8, .pointer (some ⟨g624, 0, none⟩)), (11, .pointer (some ⟨g631, 0, none⟩)), (36, .int .i64 (((((x).size : Nat) : Int) / (8 : Int)))), (37, .int .i64 ((k : Nat) : Int))] ∧ Sat w0 w (.box g631 93 #[.string st1, .slice AvW (L1).length cvW, .int .i64 (rm)] :: .box g624 43 #[.string (⟨#[]⟩ : ByteArray), .slice none 0 0, .int .i64 (0 : Int)] :: .ro 2 (.slice AvW (L1).length cvW) (L1).length (cells enc67 (L1)) :: [])) (((x.size : Int) / 8 - ((0 : Nat) : Int)).toNat) ?_ ?_
    ·exact ⟨0, st, L, Alv, clv, rfl, ⟨by omega, rfl⟩, hF.to [1, 2, 3, 8, 11, 36, 37] rfl, (hS.sub [0, 1, 3] (by decide) (by first | rfl | simp) (by simp))⟩
    ·clear hF hS; try clear hSS
     clear a w; rintro m a w ⟨k, st1, L1, AvW, cvW, rfl, hinv, hF, hS⟩
     obtain ⟨hk, hw⟩ := hinv
     have hok := wrN_ok (fua := fua) hd9 hw9 k (by omega)
     rw [hw] at hok; dsimp only at hok
     obtain ⟨hd1, hs1⟩ := hok
     have hd1i := okD_I hd1
     refine c_seq ?_
     refine c_region ?_
     refine seq_yl hF (wn_none rfl) rfl rfl (yl_bin hF rfl rfl rfl rfl (fun _ => run_lss)) ?_; clear hF; intro a hF
     refine wpList_nil ?_
     refine then_n ?_
     refine c_seq ?_
     refine c_cond hF rfl (fun hc632 => ?_) (fun hc632 => ?_)
     ·first | (replace hc632 := of_decide_eq_true hc632) | (replace hc632 := of_decide_eq_false (bnot_t hc632)) | (replace hc632 := bnot_t hc632) | skip
      try (have hc632x := hc632; simp only [okS, okI, okW, okP] at hc632x)
      refine wp_skip ?_
      refine then_n ?_
      refine c_seq ?_
      refine wp_block ?_
      refine c_seq ?_
      refine c_region ?_
      refine mvN hF rfl rfl rfl rfl rfl ?_; clear hF; intro a hF
      refine asN hF rfl rfl rfl rfl rfl ?_; clear hF; intro a hF
      refine wpList_nil ?_
      refine then_n ?_
      refine c_region ?_
      refine mvN hF rfl rfl rfl rfl rfl ?_; clear hF; intro a hF
      refine mvN hF rfl rfl rfl rfl rfl ?_; clear hF; intro a hF
      refine mvN hF rfl rfl rfl rfl rfl ?_; clear hF; intro a hF
      refine seq_yl hF (wn_none rfl) rfl rfl (yl_bin hF rfl rfl rfl rfl (fun _ => run_add (by refine ⟨?_, ?_⟩ <;> omega))) ?_; clear hF; intro a hF
      refine mvN hF rfl rfl rfl rfl rfl ?_; clear hF; intro a hF
      refine mvN hF rfl rfl rfl rfl rfl ?_; clear hF; intro a hF
      refine seq_yl hF (wn_none rfl) rfl rfl (yl_bin hF rfl rfl rfl rfl (fun _ => run_mul (by refine ⟨?_, ?_⟩ <;> omega))) ?_; clear hF; intro a hF
      refine mvN hF rfl rfl rfl rfl rfl ?_; clear hF; intro a hF
      refine seq_yl hF (wn_none rfl) rfl rfl (yl_bin hF rfl rfl rfl rfl (fun _ => run_inc (by omega))) ?_; clear hF; intro a hF
      refine seq_yl hF (wn_none rfl) rfl rfl (yl_bin hF rfl rfl rfl rfl (fun _ => run_mul (by refine ⟨?_, ?_⟩ <;> omega))) ?_; clear hF; intro a hF
      have hz633 := subs_size (s := x) (i := ((((k : Nat) : Int) * (8 : Int)))) (j := (((((k + 1) : Nat) : Int) * (8 : Int)))) (by omega) (by omega) (by omega)
      refine seq_yl hF (wn_none rfl) rfl rfl (yl_subsLH (s := x) (i := ((((k : Nat) : Int) * (8 : Int)))) (j := (((((k + 1) : Nat) : Int) * (8 : Int)))) hF rfl rfl rfl rfl Try.underlying9 (by omega) (by omega) (by omega)) ?_; clear hF; intro a hF
      refine mvN hF rfl rfl rfl rfl rfl ?_; clear hF; intro a hF
      replace hS := (hS.sub [0, 2, 1] (by decide) (by first | rfl | simp) (by simp))
      refine seq_wp (wn_none rfl) (wp_call (vs := [_, _, _, _]) hF rfl rfl rfl rfl cf65 (put_any _ _ _ _ _ _ _ L1 _ (((s) + ((k : Nat) : Int))) (subs x ((((k : Nat) : Int) * (8 : Int))) (((((k + 1) : Nat) : Int) * (8 : Int)))) fua hS (by assumption) (by unfold okS okI; omega) (by omega)) ?_)
      clear hF hS; rintro _ w ⟨st634, Lq635, v636, rfl, hq637, hS⟩ a hF
      obtain ⟨Av636, cv636, rfl⟩ := hS.form 1 rfl
      refine wpList_nil ?_
      refine inb_n ?_
      refine then_n ?_
      refine c_region ?_
      refine seq_yl hF (wn_none rfl) rfl rfl (yl_bin hF rfl rfl rfl rfl (fun _ => run_inc (by omega))) ?_; clear hF; intro a hF
      refine mvN hF rfl rfl rfl rfl rfl ?_; clear hF; intro a hF
      refine wpList_nil ?_
      refine then_n ?_
      replace hS := hS.toRo 1 rfl
      exact ⟨_, (by omega), k + 1, st634, Lq635, Av636, cv636, rfl, ⟨by omega, wrN_succ hw hq637⟩, hF.to [1, 2, 3, 8, 11, 36, 37] rfl, (hS.sub [0, 2, 1] (by decide) (by first | rfl | simp) (by simp))⟩
     ·first | (replace hc632 := of_decide_eq_false hc632) | (replace hc632 := of_decide_eq_true (bnot_f hc632)) | (replace hc632 := bnot_f hc632) | skip
      try (have hc632x := hc632; simp only [okS, okI, okW, okP] at hc632x)
      refine wp_exit ?_
      refine then_x ?_
      refine then_x ?_
      refine inb_x ?_
      refine then_n ?_
      refine c_seq ?_
      refine c_region ?_
      refine mvN hF rfl rfl rfl rfl rfl ?_; clear hF; intro a hF
      refine seq_yl hF (wn_none rfl) rfl rfl (yl_nilCheck hF rfl rfl) ?_; clear hF; intro a hF
      refine seq_yl hF (wn_none rfl) rfl rfl (yl_fieldAddr hF rfl rfl (fun w => by kernel_rfl : ∀ w, (Instr.fieldAt 93 (.pointer (some ⟨g631, 0, none⟩)) 0).run Try.prog w = .ok (.pointer (some ⟨g631, 0, none⟩)) w)) ?_; clear hF; intro a hF
      refine seq_yl hF (wn_none rfl) rfl rfl (yl_loadK (rs := [_, _, _]) (fun _ h => h ▸ hS) hF rfl rfl 0 rfl ag43 sz43 rfl rfl) ?_; clear hF; intro a hF
      refine seq_wp (wn_none rfl) (wp_call (vs := [_]) hF rfl rfl rfl rfl cf66 (copied_any st1 _ L1 (rm) _ (hS.rdRo 2 rfl) (by omega)) ?_)
      clear hF; rintro _ w ⟨v638, rfl, hS1⟩ a hF
      replace hS := hS.callB hS1 rfl; clear hS1
      obtain ⟨Av638, cv638, rfl⟩ := hS.form 0 rfl
      refine seq_wp (wn_none rfl) (wp_store (cs' := #[_, _, _]) hF hS rfl rfl rfl rfl 2 rfl sz43 (by simp [Value.cells, Value.oneCell']) (by simp [Value.cells]) rfl ?_)
      clear hF hS; intro a w hF hS
      refine asN hF rfl rfl rfl rfl rfl ?_; clear hF; intro a hF
      refine wpList_nil ?_
      refine then_n ?_
      refine wp_ret ?_
      refine ret_ct hF rfl (resC hS rfl 2 rfl ag43 sz43) rfl ?_
      exact ⟨_, rfl, _, _, _, _, _, rfl, wrN_end hw hd9 hw9 (by omega), (hS.sub [0] (by decide) (by first | rfl | simp) (by simp))⟩

set_option maxHeartbeats 1000000 in
set_option maxRecDepth 100000 in
theorem flush_any (st : ByteArray) (lv : Value) (L : List E67) (rm : Int) (w0 : World) (hv : Rd w0 2 lv (L).length (cells enc67 (L))) (hz : (st.size : Int) ≤ 9223372036854775807) (hL : L.length ≤ 1000000) :
  Fn Try.prog 43 #[.agg #[.string st, lv, .int .i64 rm]] w0 (fun v w' => ∃ (st1 : ByteArray) (rm1 : Int) (lv1 : Value), v = .agg #[.string st1, lv1, .int .i64 rm1] ∧ flushF st L rm = (st1, rm1) ∧ EmptyV lv1 ∧ Sat w0 w' []) := by
 obtain ⟨Alv, clv, rfl⟩ := Rd.form hv
 refine c_enter (N := 28) (l := [_]) Try.func43 rfl rfl (fun a w hF hS => ?_)
 replace hS := hS.addRo hv
 refine c_seq ?_
 refine c_region ?_
 refine seq_wp (wn_none rfl) (wp_box (cs := #[_, _, _]) hF hS rfl rfl rfl rfl rfl ?_)
 clear hF hS; intro a w g639 hF hS
 refine seq_wp (wn_none rfl) (wp_alloc (cs := #[_, _, _]) hF hS rfl rfl rfl zr43 rfl ?_)
 clear hF hS; intro a w g640 hF hS
 refine wpList_nil ?_
 refine then_n ?_
 refine c_seq ?_
 refine c_seq ?_
 refine c_region ?_
 refine seq_yl hF (wn_none rfl) rfl rfl (yl_loadK (rs := [_, _, _]) (fun _ h => h ▸ hS) hF rfl rfl 1 rfl ag43 sz43 rfl rfl) ?_; clear hF; intro a hF
 refine seq_wp (wn_none rfl) (wp_call (vs := [_]) hF rfl rfl rfl rfl cf60 (dValid_any st _ L (rm) _ (hS.rdRo 2 rfl) (by first | omega | (simp; done)) (by first | omega | (simp; done))) ?_)
 clear hF; rintro _ w ⟨rfl, hS1⟩ a hF
 replace hS := hS.callB hS1 rfl; clear hS1
 refine seq_yl hF (wn_none rfl) rfl rfl (yl_un hF rfl rfl (fun _ => run_not)) ?_; clear hF; intro a hF
 refine wpList_nil ?_
 refine then_n ?_
 refine c_cond hF rfl (fun hc641 => ?_) (fun hc641 => ?_)
 ·first | (replace hc641 := of_decide_eq_true hc641) | (replace hc641 := of_decide_eq_false (bnot_t hc641)) | (subst hc641) | (replace hc641 := bnot_t hc641; subst hc641) | (replace hc641 := bnot_t hc641) | skip
  try (have hc641x := hc641; simp only [okS, okI, okW, okP] at hc641x)
  refine c_seq ?_
  refine c_region ?_
  refine seq_yl hF (wn_none rfl) rfl rfl (yl_build (parts := []) (vs := []) (cs := [_, _, _]) hF bd43 rfl rfl rfl rfl) ?_; clear hF; intro a hF
  refine seq_wp (wn_none rfl) (wp_store (cs' := #[_, _, _]) hF hS rfl rfl rfl rfl 0 rfl sz43 (by simp [Value.cells, Value.oneCell']) (by simp [Value.cells]) rfl ?_)
  clear hF hS; intro a w hF hS
  refine wpList_nil ?_
  refine then_n ?_
  refine wp_ret ?_
  refine then_r ?_
  refine ret_c hF rfl (resC hS rfl 0 rfl ag43 sz43) ?_
  exact ⟨_, rfl, _, _, _, rfl, fl_bad (by assumption), EmptyV.nil, (hS.sub [] (by decide) (by first | rfl | simp) (by simp))⟩
 ·first | (replace hc641 := of_decide_eq_false hc641) | (replace hc641 := of_decide_eq_true (bnot_f hc641)) | (subst hc641) | (replace hc641 := bnot_f hc641; subst hc641) | (replace hc641 := bnot_f hc641) | skip
  try (have hc641x := hc641; simp only [okS, okI, okW, okP] at hc641x)
  refine wp_skip ?_
  refine then_n ?_
  refine c_seq ?_
  refine c_region ?_
  refine seq_yl hF (wn_none rfl) rfl rfl (yl_loadK (rs := [_, _, _]) (fun _ h => h ▸ hS) hF rfl rfl 1 rfl ag43 sz43 rfl rfl) ?_; clear hF; intro a hF
  refine seq_yl hF (wn_none rfl) rfl rfl (yl_build (parts := [(0, .tmp 8)]) (vs := [(0, _)]) (cs := [_, _, _]) hF bd93 rfl rfl rfl rfl) ?_; clear hF; intro a hF
  refine seq_wp (wn_none rfl) (wp_box (cs := #[_, _, _]) hF hS rfl rfl rfl rfl rfl ?_)
  clear hF hS; intro a w g642 hF hS
  refine asN hF rfl rfl rfl rfl rfl ?_; clear hF; intro a hF
  refine wpList_nil ?_
  refine then_n ?_
  refine c_seq ?_
  refine wp_block ?_
  have hd9 : okD st L rm := by assumption
  refine c_loop (fun m a w => ∃ (st1 : ByteArray) (L1 : List E67) (AvW : Option Addr) (cvW : Nat), m = L1.length ∧ (okD st1 L1 rm ∧ flSt st L = flSt st1 L1) ∧ Fr 28 a [(3, .pointer (some ⟨g642, 0, none⟩)), (2, .pointer (some ⟨g640, 0, none⟩))] ∧ Sat w0 w (.box g642 93 #[.string st1, .slice AvW (L1).length cvW, .int .i64 (rm)] :: .box g640 43 #[.string (⟨#[]⟩ : ByteArray), .slice none 0 0, .int .i64 (0 : Int)] :: .ro 2 (.slice AvW (L1).length cvW) (L1).length (cells enc67 (L1)) :: [])) (L.length) ?_ ?_
  ·exact ⟨st, L, Alv, clv, rfl, ⟨hd9, rfl⟩, hF.to [3, 2] rfl, (hS.sub [0, 1, 3] (by decide) (by first | rfl | simp) (by simp))⟩
  ·clear hF hS; try clear hSS
   clear a w; rintro m a w ⟨st1, L1, AvW, cvW, rfl, hinv, hF, hS⟩
   obtain ⟨hd1, hfl⟩ := hinv
   have hd1i := okD_I hd1
   refine c_seq ?_
   refine c_seq ?_
   refine c_region ?_
   refine mvN hF rfl rfl rfl rfl rfl ?_; clear hF; intro a hF
   refine seq_yl hF (wn_none rfl) rfl rfl (yl_nilCheck hF rfl rfl) ?_; clear hF; intro a hF
   refine seq_yl hF (wn_none rfl) rfl rfl (yl_fieldAddr hF rfl rfl (fun w => by kernel_rfl : ∀ w, (Instr.fieldAt 93 (.pointer (some ⟨g642, 0, none⟩)) 0).run Try.prog w = .ok (.pointer (some ⟨g642, 0, none⟩)) w)) ?_; clear hF; intro a hF
   refine seq_yl hF (wn_none rfl) rfl rfl (yl_fieldAddr hF rfl rfl (fun w => by kernel_rfl : ∀ w, (Instr.fieldAt 43 (.pointer (some ⟨g642, 0, none⟩)) 1).run Try.prog w = .ok (.pointer (some ⟨g642, 1, none⟩)) w)) ?_; clear hF; intro a hF
   refine seq_yl hF (wn_none rfl) rfl rfl (yl_load (fun _ h => h ▸ hS) hF rfl rfl 0 rfl ag41 rfl) ?_; clear hF; intro a hF
   refine seq_yl hF (wn_none rfl) rfl rfl (yl_len hF rfl rfl (fun _ => run_lenRd sl41 (hS.rdRo 2 rfl))) ?_; clear hF; intro a hF
   refine seq_yl hF (wn_none rfl) rfl rfl (yl_bin hF rfl rfl rfl rfl (fun _ => run_gtr)) ?_; clear hF; intro a hF
   refine wpList_nil ?_
   refine then_n ?_
   refine c_cond hF rfl (fun hc643 => ?_) (fun hc643 => ?_)
   ·first | (replace hc643 := of_decide_eq_true hc643) | (replace hc643 := of_decide_eq_false (bnot_t hc643)) | (subst hc643) | (replace hc643 := bnot_t hc643; subst hc643) | (replace hc643 := bnot_t hc643) | skip
    try (have hc643x := hc643; simp only [okS, okI, okW, okP] at hc643x)
    refine wp_skip ?_
    refine then_n ?_
    refine wp_block ?_
    refine c_region ?_
    refine mvN hF rfl rfl rfl rfl rfl ?_; clear hF; intro a hF
    replace hS := (hS.sub [0, 2, 1] (by decide) (by first | rfl | simp) (by simp))
    obtain ⟨p645, hp645⟩ := get_some (L := L1) (k := 0) (by have h8 := okD_I hd1; omega)
    refine seq_wp (wn_none rfl) (wp_call (vs := [_, _]) hF rfl rfl rfl rfl cf67 (destage_any _ _ _ _ _ _ _ L1 _ 0 p645 hp645 (hd1.2.2.2 _ (List.mem_of_getElem? hp645)) hS (by omega)) ?_)
    clear hF hS; rintro _ w ⟨v644, rfl, hS⟩ a hF
    have hq646k := dest_ok hd1 hp645
    have hq646n := len_selL (s := p645.f0) (old := (fun i => decide (i ≤ ((0 : Nat) : Int)))) L1 0
    have hq646f := fl_step (st := st1) hp645
    obtain ⟨Av644, cv644, rfl⟩ := hS.form 1 rfl
    refine wpList_nil ?_
    refine inb_n ?_
    refine then_n ?_
    replace hS := hS.toRo 1 rfl
    exact ⟨_, (by omega), (wim st1 p645.f0 p645.f1), (selL p645.f0 (fun i => decide (i ≤ ((0 : Nat) : Int))) 0 L1), Av644, cv644, rfl, ⟨hq646k.1, hfl.trans hq646f.1⟩, hF.to [3, 2] rfl, (hS.sub [0, 2, 1] (by decide) (by first | rfl | simp) (by simp))⟩
   ·first | (replace hc643 := of_decide_eq_false hc643) | (replace hc643 := of_decide_eq_true (bnot_f hc643)) | (subst hc643) | (replace hc643 := bnot_f hc643; subst hc643) | (replace hc643 := bnot_f hc643) | skip
    try (have hc643x := hc643; simp only [okS, okI, okW, okP] at hc643x)
    refine wp_exit ?_
    refine then_x ?_
    refine then_x ?_
    refine inb_x ?_
    refine then_n ?_
    refine c_seq ?_
    refine c_region ?_
    refine mvN hF rfl rfl rfl rfl rfl ?_; clear hF; intro a hF
    refine seq_yl hF (wn_none rfl) rfl rfl (yl_nilCheck hF rfl rfl) ?_; clear hF; intro a hF
    refine seq_yl hF (wn_none rfl) rfl rfl (yl_fieldAddr hF rfl rfl (fun w => by kernel_rfl : ∀ w, (Instr.fieldAt 93 (.pointer (some ⟨g642, 0, none⟩)) 0).run Try.prog w = .ok (.pointer (some ⟨g642, 0, none⟩)) w)) ?_; clear hF; intro a hF
    refine seq_yl hF (wn_none rfl) rfl rfl (yl_fieldAddr hF rfl rfl (fun w => by kernel_rfl : ∀ w, (Instr.fieldAt 43 (.pointer (some ⟨g642, 0, none⟩)) 1).run Try.prog w = .ok (.pointer (some ⟨g642, 1, none⟩)) w)) ?_; clear hF; intro a hF
    refine seq_wp (wn_none rfl) (wp_store (cs' := #[_, _, _]) hF hS rfl rfl rfl rfl 0 rfl sz41 (by simp [Value.cells, Value.oneCell']) (by simp [Value.cells]) rfl ?_)
    clear hF hS; intro a w hF hS
    refine wpList_nil ?_
    refine then_n ?_
    refine c_seq ?_
    refine c_region ?_
    refine mvN hF rfl rfl rfl rfl rfl ?_; clear hF; intro a hF
    refine seq_yl hF (wn_none rfl) rfl rfl (yl_nilCheck hF rfl rfl) ?_; clear hF; intro a hF
    refine seq_yl hF (wn_none rfl) rfl rfl (yl_fieldAddr hF rfl rfl (fun w => by kernel_rfl : ∀ w, (Instr.fieldAt 93 (.pointer (some ⟨g642, 0, none⟩)) 0).run Try.prog w = .ok (.pointer (some ⟨g642, 0, none⟩)) w)) ?_; clear hF; intro a hF
    refine seq_yl hF (wn_none rfl) rfl rfl (yl_loadK (rs := [_, _, _]) (fun _ h => h ▸ hS) hF rfl rfl 0 rfl ag43 sz43 rfl rfl) ?_; clear hF; intro a hF
    refine seq_wp (wn_none rfl) (wp_store (cs' := #[_, _, _]) hF hS rfl rfl rfl rfl 1 rfl sz43 (by simp [Value.cells, Value.oneCell']) (by simp [Value.cells]) rfl ?_)
    clear hF hS; intro a w hF hS
    refine wpList_nil ?_
    refine then_n ?_
    refine wp_ret ?_
    refine ret_c hF rfl (resC hS rfl 1 rfl ag43 sz43) ?_
    exact ⟨_, rfl, _, _, _, rfl, flush_end hd9 hfl (by omega), EmptyV.nil, (hS.sub [] (by decide) (by first | rfl | simp) (by simp))⟩

end Go.Proofs.Ytkejcnhfbfgphaa

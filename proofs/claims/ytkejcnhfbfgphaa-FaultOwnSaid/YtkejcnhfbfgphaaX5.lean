/- walks, printed by wip/gen -/
import Derived.Test.YtkejcnhfbfgphaaX4
namespace Go.Proofs.Ytkejcnhfbfgphaa
open Go.RowKit
set_option linter.unusedVariables false
set_option linter.unusedSimpArgs false

set_option maxHeartbeats 2000000 in
set_option maxRecDepth 100000 in
theorem write2_any (st : ByteArray) (lv : Value) (L : List E67) (rm : Int) (s : Int) (x : ByteArray) (fua : Bool) (w0 : World) (hv : Rd w0 2 lv (L).length (cells enc67 (L))) (hz : (st.size : Int) ≤ 9223372036854775807) (hL : L.length ≤ 1000000) (hx : (x.size : Int) ≤ 9223372036854775807) :
  Fn Try.prog 48 #[.agg #[.string st, lv, .int .i64 rm], .int .i64 s, .string x, .bool fua] w0 (fun v w' => ∃ (st1 : ByteArray) (lv1 : Value) (L1 : List E67) (rm1 : Int) (b : Bool), v = .tuple #[.agg #[.string st1, lv1, .int .i64 rm1], .bool b] ∧ writeF st L rm s x fua = (st1, L1, rm1, b) ∧ Sat w0 w' [.row 67 2 lv1 (L1).length (cells enc67 (L1))]) := by
 obtain ⟨Alv, clv, rfl⟩ := Rd.form hv
 refine c_enter (N := 95) (l := [_, _, _, _]) Try.func48 rfl rfl (fun a w hF hS => ?_)
 replace hS := hS.addRo hv
 refine c_seq ?_
 refine c_region ?_
 refine seq_wp (wn_none rfl) (wp_box (cs := #[_, _, _]) hF hS rfl rfl rfl rfl rfl ?_)
 clear hF hS; intro a w g488 hF hS
 refine seq_wp (wn_none rfl) (wp_alloc (cs := #[_, _, _]) hF hS rfl rfl rfl zr43 rfl ?_)
 clear hF hS; intro a w g489 hF hS
 refine asN hF rfl rfl rfl rfl rfl ?_; clear hF; intro a hF
 refine wpList_nil ?_
 refine then_n ?_
 refine c_seq ?_
 refine c_seq ?_
 refine c_region ?_
 refine seq_yl hF (wn_none rfl) rfl rfl (yl_loadK (rs := [_, _, _]) (fun _ h => h ▸ hS) hF rfl rfl 1 rfl ag43 sz43 rfl rfl) ?_; clear hF; intro a hF
 refine seq_wp (wn_none rfl) (wp_call (vs := [_]) hF rfl rfl rfl rfl cf44 (dValid2_any st _ L (rm) _ (hS.rdRo 2 rfl) (by first | omega | (simp; done)) (by first | omega | (simp; done))) ?_)
 clear hF; rintro _ w ⟨rfl, hS1⟩ a hF
 replace hS := hS.callB hS1 rfl; clear hS1
 refine seq_yl hF (wn_none rfl) rfl rfl (yl_un hF rfl rfl (fun _ => run_not)) ?_; clear hF; intro a hF
 refine mvN hF rfl rfl rfl rfl rfl ?_; clear hF; intro a hF
 refine fr_split hF (fun hc490 hF => ?_) (fun hc490 hF => ?_)
 ·first | (replace hc490 := of_decide_eq_true hc490) | (replace hc490 := of_decide_eq_false (bnot_t hc490)) | (replace hc490 := bnot_t hc490) | skip
  try (have hc490x := hc490; simp only [okS, okI, okW, okP] at hc490x)
  refine skF hF rfl rfl rfl rfl rfl rfl ?_; clear hF; intro a hF
  refine skF hF rfl rfl rfl rfl rfl rfl ?_; clear hF; intro a hF
  refine skF hF rfl rfl rfl rfl rfl rfl ?_; clear hF; intro a hF
  refine seq_yl hF (wn_none rfl) rfl rfl (pkT hF rfl rfl rfl) ?_; clear hF; intro a hF
  refine mvN hF rfl rfl rfl rfl rfl ?_; clear hF; intro a hF
  refine skF hF rfl rfl rfl rfl rfl rfl ?_; clear hF; intro a hF
  refine skF hF rfl rfl rfl rfl rfl rfl ?_; clear hF; intro a hF
  refine skF hF rfl rfl rfl rfl rfl rfl ?_; clear hF; intro a hF
  refine skF hF rfl rfl rfl rfl rfl rfl ?_; clear hF; intro a hF
  refine skF hF rfl rfl rfl rfl rfl rfl ?_; clear hF; intro a hF
  refine skF hF rfl rfl rfl rfl rfl rfl ?_; clear hF; intro a hF
  refine skF hF rfl rfl rfl rfl rfl rfl ?_; clear hF; intro a hF
  refine skF hF rfl rfl rfl rfl rfl rfl ?_; clear hF; intro a hF
  refine seq_yl hF (wn_none rfl) rfl rfl (pkT hF rfl rfl rfl) ?_; clear hF; intro a hF
  refine wpList_nil ?_
  refine then_n ?_
  refine c_cond_t hF rfl ?_
  refine c_seq ?_
  refine c_region ?_
  refine seq_yl hF (wn_none rfl) rfl rfl (yl_build (parts := []) (vs := []) (cs := [_, _, _]) hF bd43 rfl rfl rfl rfl) ?_; clear hF; intro a hF
  refine seq_wp (wn_none rfl) (wp_store (cs' := #[_, _, _]) hF hS rfl rfl rfl rfl 0 rfl sz43 (by simp [Value.cells, Value.oneCell']) (by simp [Value.cells]) rfl ?_)
  clear hF hS; intro a w hF hS
  refine asN hF rfl rfl rfl rfl rfl ?_; clear hF; intro a hF
  refine wpList_nil ?_
  refine then_n ?_
  refine wp_ret ?_
  refine then_r ?_
  refine ret_ct hF rfl (resC hS rfl 0 rfl ag43 sz43) rfl ?_
  replace hS := hS.addNil 67 2
  exact ⟨_, rfl, _, _, [], _, _, rfl, wr_bad (fun h9 => by have h8 := h9.2; have h7 := okD_I h9.1; simp only [okW, okS, okI] at h8; first | exact absurd h9.1 (by assumption) | exact absurd h9.2.1 (by assumption) | omega), (hS.sub [0] (by decide) (by first | rfl | simp) (by simp))⟩
 ·first | (replace hc490 := of_decide_eq_false hc490) | (replace hc490 := of_decide_eq_true (bnot_f hc490)) | (replace hc490 := bnot_f hc490) | skip
  try (have hc490x := hc490; simp only [okS, okI, okW, okP] at hc490x)
  refine seq_yl hF (wn_t hF rfl rfl rfl rfl) rfl rfl (yl_move hF rfl rfl) ?_; clear hF; intro a hF
  refine seq_wp (wn_t hF rfl rfl rfl rfl) (wp_call (vs := [_]) hF rfl rfl rfl rfl cf70 (whole_any x _) ?_)
  clear hF; rintro _ w ⟨rfl, hS1⟩ a hF
  replace hS := hS.callB hS1 rfl; clear hS1
  refine seq_yl hF (wn_t hF rfl rfl rfl rfl) rfl rfl (yl_un hF rfl rfl (fun _ => run_not)) ?_; clear hF; intro a hF
  refine seq_yl hF (wn_none rfl) rfl rfl (pkF hF rfl rfl rfl) ?_; clear hF; intro a hF
  refine mvN hF rfl rfl rfl rfl rfl ?_; clear hF; intro a hF
  refine fr_split hF (fun hc492 hF => ?_) (fun hc492 hF => ?_)
  ·first | (replace hc492 := of_decide_eq_true hc492) | (replace hc492 := of_decide_eq_false (bnot_t hc492)) | (replace hc492 := bnot_t hc492) | skip
   try (have hc492x := hc492; simp only [okS, okI, okW, okP] at hc492x)
   refine skF hF rfl rfl rfl rfl rfl rfl ?_; clear hF; intro a hF
   refine skF hF rfl rfl rfl rfl rfl rfl ?_; clear hF; intro a hF
   refine skF hF rfl rfl rfl rfl rfl rfl ?_; clear hF; intro a hF
   refine skF hF rfl rfl rfl rfl rfl rfl ?_; clear hF; intro a hF
   refine skF hF rfl rfl rfl rfl rfl rfl ?_; clear hF; intro a hF
   refine skF hF rfl rfl rfl rfl rfl rfl ?_; clear hF; intro a hF
   refine skF hF rfl rfl rfl rfl rfl rfl ?_; clear hF; intro a hF
   refine skF hF rfl rfl rfl rfl rfl rfl ?_; clear hF; intro a hF
   refine seq_yl hF (wn_none rfl) rfl rfl (pkT hF rfl rfl rfl) ?_; clear hF; intro a hF
   refine wpList_nil ?_
   refine then_n ?_
   refine c_cond_t hF rfl ?_
   refine c_seq ?_
   refine c_region ?_
   refine seq_yl hF (wn_none rfl) rfl rfl (yl_build (parts := []) (vs := []) (cs := [_, _, _]) hF bd43 rfl rfl rfl rfl) ?_; clear hF; intro a hF
   refine seq_wp (wn_none rfl) (wp_store (cs' := #[_, _, _]) hF hS rfl rfl rfl rfl 0 rfl sz43 (by simp [Value.cells, Value.oneCell']) (by simp [Value.cells]) rfl ?_)
   clear hF hS; intro a w hF hS
   refine asN hF rfl rfl rfl rfl rfl ?_; clear hF; intro a hF
   refine wpList_nil ?_
   refine then_n ?_
   refine wp_ret ?_
   refine then_r ?_
   refine ret_ct hF rfl (resC hS rfl 0 rfl ag43 sz43) rfl ?_
   replace hS := hS.addNil 67 2
   exact ⟨_, rfl, _, _, [], _, _, rfl, wr_bad (fun h9 => by have h8 := h9.2; have h7 := okD_I h9.1; simp only [okW, okS, okI] at h8; first | exact absurd h9.1 (by assumption) | exact absurd h9.2.1 (by assumption) | omega), (hS.sub [0] (by decide) (by first | rfl | simp) (by simp))⟩
  ·first | (replace hc492 := of_decide_eq_false hc492) | (replace hc492 := of_decide_eq_true (bnot_f hc492)) | (replace hc492 := bnot_f hc492) | skip
   try (have hc492x := hc492; simp only [okS, okI, okW, okP] at hc492x)
   refine seq_yl hF (wn_t hF rfl rfl rfl rfl) rfl rfl (yl_move hF rfl rfl) ?_; clear hF; intro a hF
   refine seq_yl hF (wn_t hF rfl rfl rfl rfl) rfl rfl (yl_move hF rfl rfl) ?_; clear hF; intro a hF
   refine seq_yl hF (wn_t hF rfl rfl rfl rfl) rfl rfl (yl_len hF rfl rfl (fun _ => run_lenStr Try.underlying9)) ?_; clear hF; intro a hF
   refine seq_yl hF (wn_t hF rfl rfl rfl rfl) rfl rfl (yl_bin hF rfl rfl rfl rfl (fun _ => run_quoN (by omega) (by omega) (by omega))) ?_; clear hF; intro a hF
   refine seq_yl hF (wn_t hF rfl rfl rfl rfl) rfl rfl (yl_loadK (rs := [_, _, _]) (fun _ h => h ▸ hS) hF rfl rfl 1 rfl ag43 sz43 rfl rfl) ?_; clear hF; intro a hF
   refine seq_wp (wn_t hF rfl rfl rfl rfl) (wp_call (vs := [_]) hF rfl rfl rfl rfl cf30 (secs_any st _ _ _ (by omega)) ?_)
   clear hF; rintro _ w ⟨rfl, hS1⟩ a hF
   replace hS := hS.callB hS1 rfl; clear hS1
   refine seq_wp (wn_t hF rfl rfl rfl rfl) (wp_call (vs := [_, _, _]) hF rfl rfl rfl rfl cf46 (in_any (s) (((((x).size : Nat) : Int) / (8 : Int))) ((((st).size : Int) / 8)) _ (by omega)) ?_)
   clear hF; rintro _ w ⟨rfl, hS1⟩ a hF
   replace hS := hS.callB hS1 rfl; clear hS1
   refine seq_yl hF (wn_t hF rfl rfl rfl rfl) rfl rfl (yl_un hF rfl rfl (fun _ => run_not)) ?_; clear hF; intro a hF
   refine seq_yl hF (wn_none rfl) rfl rfl (pkF hF rfl rfl rfl) ?_; clear hF; intro a hF
   refine wpList_nil ?_
   refine then_n ?_
   refine c_cond hF rfl (fun hc494 => ?_) (fun hc494 => ?_)
   ·first | (replace hc494 := of_decide_eq_true hc494) | (replace hc494 := of_decide_eq_false (bnot_t hc494)) | (replace hc494 := bnot_t hc494) | skip
    try (have hc494x := hc494; simp only [okS, okI, okW, okP] at hc494x)
    refine c_seq ?_
    refine c_region ?_
    refine seq_yl hF (wn_none rfl) rfl rfl (yl_build (parts := []) (vs := []) (cs := [_, _, _]) hF bd43 rfl rfl rfl rfl) ?_; clear hF; intro a hF
    refine seq_wp (wn_none rfl) (wp_store (cs' := #[_, _, _]) hF hS rfl rfl rfl rfl 0 rfl sz43 (by simp [Value.cells, Value.oneCell']) (by simp [Value.cells]) rfl ?_)
    clear hF hS; intro a w hF hS
    refine asN hF rfl rfl rfl rfl rfl ?_; clear hF; intro a hF
    refine wpList_nil ?_
    refine then_n ?_
    refine wp_ret ?_
    refine then_r ?_
    refine ret_ct hF rfl (resC hS rfl 0 rfl ag43 sz43) rfl ?_
    replace hS := hS.addNil 67 2
    exact ⟨_, rfl, _, _, [], _, _, rfl, wr_bad (fun h9 => by have h8 := h9.2; have h7 := okD_I h9.1; simp only [okW, okS, okI] at h8; first | exact absurd h9.1 (by assumption) | exact absurd h9.2.1 (by assumption) | omega), (hS.sub [0] (by decide) (by first | rfl | simp) (by simp))⟩
   ·first | (replace hc494 := of_decide_eq_false hc494) | (replace hc494 := of_decide_eq_true (bnot_f hc494)) | (replace hc494 := bnot_f hc494) | skip
    try (have hc494x := hc494; simp only [okS, okI, okW, okP] at hc494x)
    refine wp_skip ?_
    refine then_n ?_
    refine c_seq ?_
    refine c_seq ?_
    refine c_region ?_
    refine asN hF rfl rfl rfl rfl rfl ?_; clear hF; intro a hF
    refine wpList_nil ?_
    refine then_n ?_
    refine wp_block ?_
    have hd9 : okD st L rm := by assumption
    have hw9 : okW (st.size : Int) s (x.size : Int) := by have h8 := okD_I hd9; unfold okW okS okI; first | omega | (refine ⟨by assumption, by omega⟩)
    have hw9x := hw9
    simp only [okW, okS, okI] at hw9x
    refine c_loop (fun m a w => ∃ (k : Nat) (st1 : ByteArray) (L1 : List E67) (AvW : Option Addr) (cvW : Nat) (ow : Bool), m = ((x.size : Int) / 8 - (k : Int)).toNat ∧ ((k : Int) ≤ (x.size : Int) / 8 ∧ wrN st L rm s x fua k = (st1, L1) ∧ (k ≠ 0 → ow = true)) ∧ Fr 95 a [(1, .int .i64 (s)), (2, .string x), (3, .bool fua), (4, .pointer (some ⟨g488, 0, none⟩)), (8, .pointer (some ⟨g489, 0, none⟩)), (10, .int .i64 ((k : Nat) : Int))] ∧ Sat w0 w (.box g488 43 #[.string st1, .slice AvW (L1).length cvW, .int .i64 (rm)] :: .box g489 43 #[.string (⟨#[]⟩ : ByteArray), .slice none 0 0, .int .i64 (0 : Int)] :: pickC ow 67 2 (.slice AvW (L1).length cvW) (L1).length (cells enc67 (L1)) :: [])) (((x.size : Int) / 8 - ((0 : Nat) : Int)).toNat) ?_ ?_
    ·exact ⟨0, st, L, Alv, clv, false, rfl, ⟨by omega, rfl, fun h9 => absurd rfl h9⟩, hF.to [1, 2, 3, 4, 8, 10] rfl, (hS.sub [1, 0, 2] (by decide) (by first | rfl | simp) (by simp))⟩
    ·clear hF hS; try clear hSS
     clear a w; rintro m a w ⟨k, st1, L1, AvW, cvW, ow, rfl, hinv, hF, hS⟩
     obtain ⟨hk, hw, how⟩ := hinv
     have hok := wrN_ok (fua := fua) hd9 hw9 k (by omega)
     rw [hw] at hok; dsimp only at hok
     obtain ⟨hd1, hs1⟩ := hok
     have hd1i := okD_I hd1
     have hS0 := hS; replace hS := hS.pickRo 2 rfl
     refine c_seq ?_
     refine c_seq ?_
     refine c_region ?_
     refine mvN hF rfl rfl rfl rfl rfl ?_; clear hF; intro a hF
     refine mvN hF rfl rfl rfl rfl rfl ?_; clear hF; intro a hF
     refine seq_yl hF (wn_none rfl) rfl rfl (yl_len hF rfl rfl (fun _ => run_lenStr Try.underlying9)) ?_; clear hF; intro a hF
     refine seq_yl hF (wn_none rfl) rfl rfl (yl_bin hF rfl rfl rfl rfl (fun _ => run_quoN (by omega) (by omega) (by omega))) ?_; clear hF; intro a hF
     refine seq_yl hF (wn_none rfl) rfl rfl (yl_bin hF rfl rfl rfl rfl (fun _ => run_lss)) ?_; clear hF; intro a hF
     refine wpList_nil ?_
     refine then_n ?_
     refine c_cond hF rfl (fun hc496 => ?_) (fun hc496 => ?_)
     ·first | (replace hc496 := of_decide_eq_true hc496) | (replace hc496 := of_decide_eq_false (bnot_t hc496)) | (replace hc496 := bnot_t hc496) | skip
      try (have hc496x := hc496; simp only [okS, okI, okW, okP] at hc496x)
      refine wp_skip ?_
      refine then_n ?_
      refine c_seq ?_
      refine wp_block ?_
      refine c_seq ?_
      refine c_region ?_
      refine mvN hF rfl rfl rfl rfl rfl ?_; clear hF; intro a hF
      refine mvN hF rfl rfl rfl rfl rfl ?_; clear hF; intro a hF
      refine seq_yl hF (wn_none rfl) rfl rfl (yl_bin hF rfl rfl rfl rfl (fun _ => run_add (by refine ⟨?_, ?_⟩ <;> omega))) ?_; clear hF; intro a hF
      refine mvN hF rfl rfl rfl rfl rfl ?_; clear hF; intro a hF
      refine mvN hF rfl rfl rfl rfl rfl ?_; clear hF; intro a hF
      refine seq_yl hF (wn_none rfl) rfl rfl (yl_bin hF rfl rfl rfl rfl (fun _ => run_mul (by refine ⟨?_, ?_⟩ <;> omega))) ?_; clear hF; intro a hF
      refine mvN hF rfl rfl rfl rfl rfl ?_; clear hF; intro a hF
      refine seq_yl hF (wn_none rfl) rfl rfl (yl_bin hF rfl rfl rfl rfl (fun _ => run_inc (by omega))) ?_; clear hF; intro a hF
      refine seq_yl hF (wn_none rfl) rfl rfl (yl_bin hF rfl rfl rfl rfl (fun _ => run_mul (by refine ⟨?_, ?_⟩ <;> omega))) ?_; clear hF; intro a hF
      have hz497 := subs_size (s := x) (i := ((((k : Nat) : Int) * (8 : Int)))) (j := (((((k + 1) : Nat) : Int) * (8 : Int)))) (by omega) (by omega) (by omega)
      refine seq_yl hF (wn_none rfl) rfl rfl (yl_subsLH (s := x) (i := ((((k : Nat) : Int) * (8 : Int)))) (j := (((((k + 1) : Nat) : Int) * (8 : Int)))) hF rfl rfl rfl rfl Try.underlying9 (by omega) (by omega) (by omega)) ?_; clear hF; intro a hF
      refine seq_yl hF (wn_none rfl) rfl rfl (yl_build (parts := [(0, .tmp 42), (1, .tmp 49)]) (vs := [(0, _), (1, _)]) (cs := [_, _]) hF bd67 rfl rfl rfl rfl) ?_; clear hF; intro a hF
      refine seq_wp (wn_none rfl) (wp_alloc (cs := #[_, _]) hF hS rfl rfl rfl zr67 rfl ?_)
      clear hF hS; intro a w g498 hF hS
      refine seq_wp (wn_none rfl) (wp_store (cs' := #[_, _]) hF hS rfl rfl rfl rfl 0 rfl sz67 (by simp [Value.cells, Value.oneCell']) (by simp [Value.cells]) rfl ?_)
      clear hF hS; intro a w hF hS
      refine wpList_nil ?_
      refine then_n ?_
      refine c_seq ?_
      refine c_seq ?_
      refine c_region ?_
      refine mvN hF rfl rfl rfl rfl rfl ?_; clear hF; intro a hF
      refine mvN hF rfl rfl rfl rfl rfl ?_; clear hF; intro a hF
      refine fr_split hF (fun hc499 hF => ?_) (fun hc499 hF => ?_)
      ·first | (replace hc499 := of_decide_eq_true hc499) | (replace hc499 := of_decide_eq_false (bnot_t hc499)) | (replace hc499 := bnot_t hc499) | skip
       try (have hc499x := hc499; simp only [okS, okI, okW, okP] at hc499x)
       refine skF hF rfl rfl rfl rfl rfl rfl ?_; clear hF; intro a hF
       refine skF hF rfl rfl rfl rfl rfl rfl ?_; clear hF; intro a hF
       refine skF hF rfl rfl rfl rfl rfl rfl ?_; clear hF; intro a hF
       refine seq_yl hF (wn_none rfl) rfl rfl (pkT hF rfl rfl rfl) ?_; clear hF; intro a hF
       refine wpList_nil ?_
       refine then_n ?_
       refine c_cond_t hF rfl ?_
       refine c_seq ?_
       refine c_region ?_
       refine seq_yl hF (wn_none rfl) rfl rfl (yl_fieldAddr hF rfl rfl (fun w => by kernel_rfl : ∀ w, (Instr.fieldAt 43 (.pointer (some ⟨g488, 0, none⟩)) 0).run Try.prog w = .ok (.pointer (some ⟨g488, 0, none⟩)) w)) ?_; clear hF; intro a hF
       refine seq_yl hF (wn_none rfl) rfl rfl (yl_load (fun _ h => h ▸ hS) hF rfl rfl 1 rfl ag9 rfl) ?_; clear hF; intro a hF
       refine seq_yl hF (wn_none rfl) rfl rfl (yl_fieldAddr hF rfl rfl (fun w => by kernel_rfl : ∀ w, (Instr.fieldAt 67 (.pointer (some ⟨g498, 0, none⟩)) 0).run Try.prog w = .ok (.pointer (some ⟨g498, 0, none⟩)) w)) ?_; clear hF; intro a hF
       refine seq_yl hF (wn_none rfl) rfl rfl (yl_load (fun _ h => h ▸ hS) hF rfl rfl 0 rfl ag3 rfl) ?_; clear hF; intro a hF
       refine seq_yl hF (wn_none rfl) rfl rfl (yl_fieldAddr hF rfl rfl (fun w => by kernel_rfl : ∀ w, (Instr.fieldAt 67 (.pointer (some ⟨g498, 0, none⟩)) 1).run Try.prog w = .ok (.pointer (some ⟨g498, 1, none⟩)) w)) ?_; clear hF; intro a hF
       refine seq_yl hF (wn_none rfl) rfl rfl (yl_load (fun _ h => h ▸ hS) hF rfl rfl 0 rfl ag9 rfl) ?_; clear hF; intro a hF
       refine seq_wp (wn_none rfl) (wp_call (vs := [_, _, _]) hF rfl rfl rfl rfl cf71 (imWrite2_any st1 (((s) + ((k : Nat) : Int))) (subs x ((((k : Nat) : Int) * (8 : Int))) (((((k + 1) : Nat) : Int) * (8 : Int)))) _ (by omega) (by omega)) ?_)
       clear hF; rintro _ w ⟨xs500, e501, rfl, hsp502, hS1⟩ a hF
       replace hS := hS.callB hS1 rfl; clear hS1
       have hsp502z := fun h9 : okW ((st1).size : Int) (((s) + ((k : Nat) : Int))) (((subs x ((((k : Nat) : Int) * (8 : Int))) (((((k + 1) : Nat) : Int) * (8 : Int))))).size : Int) => wim_size (im := st1) (s := (((s) + ((k : Nat) : Int)))) (x := (subs x ((((k : Nat) : Int) * (8 : Int))) (((((k + 1) : Nat) : Int) * (8 : Int))))) h9
       obtain ⟨hk503, rfl, rfl⟩ := hsp502.resolve_right (fun h9 => h9.1 (okW_of (by unfold okS okI; omega) (by omega)))
       try (have hk503x := hk503; simp only [okS, okI, okW, okP] at hk503x)
       refine mvN hF rfl rfl rfl rfl rfl ?_; clear hF; intro a hF
       refine seq_yl hF (wn_none rfl) rfl rfl (yl_extract hF rfl rfl rfl) ?_; clear hF; intro a hF
       refine seq_yl hF (wn_none rfl) rfl rfl (yl_extract hF rfl rfl rfl) ?_; clear hF; intro a hF
       refine asN hF rfl rfl rfl rfl rfl ?_; clear hF; intro a hF
       refine asN hF rfl rfl rfl rfl rfl ?_; clear hF; intro a hF
       refine wpList_nil ?_
       refine then_n ?_
       refine c_seq ?_
       refine ha_startS hS [1, 0] 9 (by kernel_rfl) ?_; clear hS; intro w hS
       have hSS := hS.sub [1, 0] (by decide) rfl (by simp)
       refine ha_y 0 hF rfl rfl rfl (wn_none rfl) (.inr hSS) (yl_move hF rfl rfl) ?_; clear hF; intro a hF
       refine ha_y 1 hF rfl rfl rfl (wn_none rfl) (.inr hSS) (yl_fieldAddr hF rfl rfl (fun w => by kernel_rfl : ∀ w, (Instr.fieldAt 43 (.pointer (some ⟨g488, 0, none⟩)) 1).run Try.prog w = .ok (.pointer (some ⟨g488, 1, none⟩)) w)) ?_; clear hF; intro a hF
       refine ha_y 3 hF rfl rfl rfl (wn_none rfl) (.inr hSS) (yl_fieldAddr hF rfl rfl (fun w => by kernel_rfl : ∀ w, (Instr.fieldAt 67 (.pointer (some ⟨g498, 0, none⟩)) 0).run Try.prog w = .ok (.pointer (some ⟨g498, 0, none⟩)) w)) ?_; clear hF; intro a hF
       refine ha_y 6 hF rfl rfl rfl (wn_none rfl) (.inr hSS) (yl_fieldAddr hF rfl rfl (fun w => by kernel_rfl : ∀ w, (Instr.fieldAt 43 (.pointer (some ⟨g488, 0, none⟩)) 2).run Try.prog w = .ok (.pointer (some ⟨g488, 2, none⟩)) w)) ?_; clear hF; intro a hF
       refine ha_l 2 hF rfl rfl rfl (wn_none rfl) hSS (yl_load (fun _ h => h) hF rfl rfl 0 rfl ag41 rfl) ?_; clear hF; intro a hF
       refine ha_l 4 hF rfl rfl rfl (wn_none rfl) hSS (yl_load (fun _ h => h) hF rfl rfl 1 rfl ag3 rfl) ?_; clear hF; intro a hF
       refine ha_l 7 hF rfl rfl rfl (wn_none rfl) hSS (yl_load (fun _ h => h) hF rfl rfl 0 rfl ag3 rfl) ?_; clear hF; intro a hF
       refine ha_one 5 (by kernel_rfl) rfl (wn_none rfl) (wp_call (vs := [_, _]) hF rfl rfl rfl rfl cf72 (without_any _ L1 (((s) + ((k : Nat) : Int))) _ (hS.rdRo 3 rfl) (by omega)) ?_)
       clear hF; rintro _ w ⟨v504, rfl, hS1⟩ a hF
       replace hS := hS.callB hS1 rfl; clear hS1
       obtain ⟨Av504, cv504, rfl⟩ := hS.form 0 rfl
       have hls505 := len_selL (s := (((s) + ((k : Nat) : Int)))) (old := (fun _ => true)) L1 0
       replace hSS := hS.sub [2, 1] (by decide) rfl (by simp)
       refine ⟨.inr hSS, ?_⟩
       refine ha_y 8 hF rfl rfl rfl (wn_none rfl) (.inr hSS) (yl_build (parts := [(0, .tmp 67), (1, .tmp 72), (2, .tmp 74)]) (vs := [(0, _), (1, _), (2, _)]) (cs := [_, _, _]) hF bd43 rfl rfl rfl rfl) ?_; clear hF; intro a hF
       refine ha_one 9 (by kernel_rfl) rfl (wn_none rfl) (wp_store (cs' := #[_, _, _]) hF hS rfl rfl rfl rfl 2 rfl sz43 (by simp [Value.cells, Value.oneCell']) (by simp [Value.cells]) rfl ?_)
       clear hF hS; intro a w hF hS
       refine ⟨.inl (by kernel_rfl), ?_⟩
       refine ha_done (by kernel_rfl) ?_ _
       refine then_n ?_
       refine wp_exit ?_
       refine then_x ?_
       refine inb_x ?_
       refine then_n ?_
       refine c_region ?_
       refine mvN hF rfl rfl rfl rfl rfl ?_; clear hF; intro a hF
       refine seq_yl hF (wn_none rfl) rfl rfl (yl_bin hF rfl rfl rfl rfl (fun _ => run_inc (by omega))) ?_; clear hF; intro a hF
       refine asN hF rfl rfl rfl rfl rfl ?_; clear hF; intro a hF
       refine wpList_nil ?_
       refine then_n ?_
       have hp1 : put1 st1 L1 rm (s + (k : Int)) (subs x ((k : Int) * 8) (((k + 1 : Nat) : Int) * 8)) fua = ((wim st1 (((s) + ((k : Nat) : Int))) (subs x ((((k : Nat) : Int) * (8 : Int))) (((((k + 1) : Nat) : Int) * (8 : Int))))), (selL (((s) + ((k : Nat) : Int))) (fun _ => true) 0 L1)) := put1_1 (by first | exact .inl (by assumption) | exact .inr (by assumption))
       exact ⟨_, (by omega), k + 1, (wim st1 (((s) + ((k : Nat) : Int))) (subs x ((((k : Nat) : Int) * (8 : Int))) (((((k + 1) : Nat) : Int) * (8 : Int))))), (selL (((s) + ((k : Nat) : Int))) (fun _ => true) 0 L1), Av504, cv504, true, rfl, ⟨by omega, wrN_succ hw hp1, fun _ => rfl⟩, hF.to [1, 2, 3, 4, 8, 10] rfl, (hS.sub [2, 3, 0] (by decide) (by first | rfl | simp) (by simp))⟩
      ·first | (replace hc499 := of_decide_eq_false hc499) | (replace hc499 := of_decide_eq_true (bnot_f hc499)) | (replace hc499 := bnot_f hc499) | skip
       try (have hc499x := hc499; simp only [okS, okI, okW, okP] at hc499x)
       refine seq_yl hF (wn_t hF rfl rfl rfl rfl) rfl rfl (yl_fieldAddr hF rfl rfl (fun w => by kernel_rfl : ∀ w, (Instr.fieldAt 43 (.pointer (some ⟨g488, 0, none⟩)) 2).run Try.prog w = .ok (.pointer (some ⟨g488, 2, none⟩)) w)) ?_; clear hF; intro a hF
       refine seq_yl hF (wn_t hF rfl rfl rfl rfl) rfl rfl (yl_load (fun _ h => h ▸ hS) hF rfl rfl 1 rfl ag3 rfl) ?_; clear hF; intro a hF
       refine seq_yl hF (wn_t hF rfl rfl rfl rfl) rfl rfl (yl_bin hF rfl rfl rfl rfl (fun _ => run_eql)) ?_; clear hF; intro a hF
       refine seq_yl hF (wn_none rfl) rfl rfl (pkF hF rfl rfl rfl) ?_; clear hF; intro a hF
       refine wpList_nil ?_
       refine then_n ?_
       refine c_cond hF rfl (fun hc506 => ?_) (fun hc506 => ?_)
       ·first | (replace hc506 := of_decide_eq_true hc506) | (replace hc506 := of_decide_eq_false (bnot_t hc506)) | (replace hc506 := bnot_t hc506) | skip
        try (have hc506x := hc506; simp only [okS, okI, okW, okP] at hc506x)
        refine c_seq ?_
        refine c_region ?_
        refine seq_yl hF (wn_none rfl) rfl rfl (yl_fieldAddr hF rfl rfl (fun w => by kernel_rfl : ∀ w, (Instr.fieldAt 43 (.pointer (some ⟨g488, 0, none⟩)) 0).run Try.prog w = .ok (.pointer (some ⟨g488, 0, none⟩)) w)) ?_; clear hF; intro a hF
        refine seq_yl hF (wn_none rfl) rfl rfl (yl_load (fun _ h => h ▸ hS) hF rfl rfl 1 rfl ag9 rfl) ?_; clear hF; intro a hF
        refine seq_yl hF (wn_none rfl) rfl rfl (yl_fieldAddr hF rfl rfl (fun w => by kernel_rfl : ∀ w, (Instr.fieldAt 67 (.pointer (some ⟨g498, 0, none⟩)) 0).run Try.prog w = .ok (.pointer (some ⟨g498, 0, none⟩)) w)) ?_; clear hF; intro a hF
        refine seq_yl hF (wn_none rfl) rfl rfl (yl_load (fun _ h => h ▸ hS) hF rfl rfl 0 rfl ag3 rfl) ?_; clear hF; intro a hF
        refine seq_yl hF (wn_none rfl) rfl rfl (yl_fieldAddr hF rfl rfl (fun w => by kernel_rfl : ∀ w, (Instr.fieldAt 67 (.pointer (some ⟨g498, 0, none⟩)) 1).run Try.prog w = .ok (.pointer (some ⟨g498, 1, none⟩)) w)) ?_; clear hF; intro a hF
        refine seq_yl hF (wn_none rfl) rfl rfl (yl_load (fun _ h => h ▸ hS) hF rfl rfl 0 rfl ag9 rfl) ?_; clear hF; intro a hF
        refine seq_wp (wn_none rfl) (wp_call (vs := [_, _, _]) hF rfl rfl rfl rfl cf71 (imWrite2_any st1 (((s) + ((k : Nat) : Int))) (subs x ((((k : Nat) : Int) * (8 : Int))) (((((k + 1) : Nat) : Int) * (8 : Int)))) _ (by omega) (by omega)) ?_)
        clear hF; rintro _ w ⟨xs507, e508, rfl, hsp509, hS1⟩ a hF
        replace hS := hS.callB hS1 rfl; clear hS1
        have hsp509z := fun h9 : okW ((st1).size : Int) (((s) + ((k : Nat) : Int))) (((subs x ((((k : Nat) : Int) * (8 : Int))) (((((k + 1) : Nat) : Int) * (8 : Int))))).size : Int) => wim_size (im := st1) (s := (((s) + ((k : Nat) : Int)))) (x := (subs x ((((k : Nat) : Int) * (8 : Int))) (((((k + 1) : Nat) : Int) * (8 : Int))))) h9
        obtain ⟨hk510, rfl, rfl⟩ := hsp509.resolve_right (fun h9 => h9.1 (okW_of (by unfold okS okI; omega) (by omega)))
        try (have hk510x := hk510; simp only [okS, okI, okW, okP] at hk510x)
        refine mvN hF rfl rfl rfl rfl rfl ?_; clear hF; intro a hF
        refine seq_yl hF (wn_none rfl) rfl rfl (yl_extract hF rfl rfl rfl) ?_; clear hF; intro a hF
        refine seq_yl hF (wn_none rfl) rfl rfl (yl_extract hF rfl rfl rfl) ?_; clear hF; intro a hF
        refine asN hF rfl rfl rfl rfl rfl ?_; clear hF; intro a hF
        refine asN hF rfl rfl rfl rfl rfl ?_; clear hF; intro a hF
        refine wpList_nil ?_
        refine then_n ?_
        refine c_seq ?_
        refine ha_startS hS [1, 0] 9 (by kernel_rfl) ?_; clear hS; intro w hS
        have hSS := hS.sub [1, 0] (by decide) rfl (by simp)
        refine ha_y 0 hF rfl rfl rfl (wn_none rfl) (.inr hSS) (yl_move hF rfl rfl) ?_; clear hF; intro a hF
        refine ha_y 1 hF rfl rfl rfl (wn_none rfl) (.inr hSS) (yl_fieldAddr hF rfl rfl (fun w => by kernel_rfl : ∀ w, (Instr.fieldAt 43 (.pointer (some ⟨g488, 0, none⟩)) 1).run Try.prog w = .ok (.pointer (some ⟨g488, 1, none⟩)) w)) ?_; clear hF; intro a hF
        refine ha_y 3 hF rfl rfl rfl (wn_none rfl) (.inr hSS) (yl_fieldAddr hF rfl rfl (fun w => by kernel_rfl : ∀ w, (Instr.fieldAt 67 (.pointer (some ⟨g498, 0, none⟩)) 0).run Try.prog w = .ok (.pointer (some ⟨g498, 0, none⟩)) w)) ?_; clear hF; intro a hF
        refine ha_y 6 hF rfl rfl rfl (wn_none rfl) (.inr hSS) (yl_fieldAddr hF rfl rfl (fun w => by kernel_rfl : ∀ w, (Instr.fieldAt 43 (.pointer (some ⟨g488, 0, none⟩)) 2).run Try.prog w = .ok (.pointer (some ⟨g488, 2, none⟩)) w)) ?_; clear hF; intro a hF
        refine ha_l 2 hF rfl rfl rfl (wn_none rfl) hSS (yl_load (fun _ h => h) hF rfl rfl 0 rfl ag41 rfl) ?_; clear hF; intro a hF
        refine ha_l 4 hF rfl rfl rfl (wn_none rfl) hSS (yl_load (fun _ h => h) hF rfl rfl 1 rfl ag3 rfl) ?_; clear hF; intro a hF
        refine ha_l 7 hF rfl rfl rfl (wn_none rfl) hSS (yl_load (fun _ h => h) hF rfl rfl 0 rfl ag3 rfl) ?_; clear hF; intro a hF
        refine ha_one 5 (by kernel_rfl) rfl (wn_none rfl) (wp_call (vs := [_, _]) hF rfl rfl rfl rfl cf72 (without_any _ L1 (((s) + ((k : Nat) : Int))) _ (hS.rdRo 3 rfl) (by omega)) ?_)
        clear hF; rintro _ w ⟨v511, rfl, hS1⟩ a hF
        replace hS := hS.callB hS1 rfl; clear hS1
        obtain ⟨Av511, cv511, rfl⟩ := hS.form 0 rfl
        have hls512 := len_selL (s := (((s) + ((k : Nat) : Int)))) (old := (fun _ => true)) L1 0
        replace hSS := hS.sub [2, 1] (by decide) rfl (by simp)
        refine ⟨.inr hSS, ?_⟩
        refine ha_y 8 hF rfl rfl rfl (wn_none rfl) (.inr hSS) (yl_build (parts := [(0, .tmp 67), (1, .tmp 72), (2, .tmp 74)]) (vs := [(0, _), (1, _), (2, _)]) (cs := [_, _, _]) hF bd43 rfl rfl rfl rfl) ?_; clear hF; intro a hF
        refine ha_one 9 (by kernel_rfl) rfl (wn_none rfl) (wp_store (cs' := #[_, _, _]) hF hS rfl rfl rfl rfl 2 rfl sz43 (by simp [Value.cells, Value.oneCell']) (by simp [Value.cells]) rfl ?_)
        clear hF hS; intro a w hF hS
        refine ⟨.inl (by kernel_rfl), ?_⟩
        refine ha_done (by kernel_rfl) ?_ _
        refine then_n ?_
        refine wp_exit ?_
        refine then_x ?_
        refine inb_x ?_
        refine then_n ?_
        refine c_region ?_
        refine mvN hF rfl rfl rfl rfl rfl ?_; clear hF; intro a hF
        refine seq_yl hF (wn_none rfl) rfl rfl (yl_bin hF rfl rfl rfl rfl (fun _ => run_inc (by omega))) ?_; clear hF; intro a hF
        refine asN hF rfl rfl rfl rfl rfl ?_; clear hF; intro a hF
        refine wpList_nil ?_
        refine then_n ?_
        have hp1 : put1 st1 L1 rm (s + (k : Int)) (subs x ((k : Int) * 8) (((k + 1 : Nat) : Int) * 8)) fua = ((wim st1 (((s) + ((k : Nat) : Int))) (subs x ((((k : Nat) : Int) * (8 : Int))) (((((k + 1) : Nat) : Int) * (8 : Int))))), (selL (((s) + ((k : Nat) : Int))) (fun _ => true) 0 L1)) := put1_1 (by first | exact .inl (by assumption) | exact .inr (by assumption))
        exact ⟨_, (by omega), k + 1, (wim st1 (((s) + ((k : Nat) : Int))) (subs x ((((k : Nat) : Int) * (8 : Int))) (((((k + 1) : Nat) : Int) * (8 : Int))))), (selL (((s) + ((k : Nat) : Int))) (fun _ => true) 0 L1), Av511, cv511, true, rfl, ⟨by omega, wrN_succ hw hp1, fun _ => rfl⟩, hF.to [1, 2, 3, 4, 8, 10] rfl, (hS.sub [2, 3, 0] (by decide) (by first | rfl | simp) (by simp))⟩
       ·first | (replace hc506 := of_decide_eq_false hc506) | (replace hc506 := of_decide_eq_true (bnot_f hc506)) | (replace hc506 := bnot_f hc506) | skip
        try (have hc506x := hc506; simp only [okS, okI, okW, okP] at hc506x)
        refine wp_skip ?_
        refine then_n ?_
        refine c_seq ?_
        refine c_seq ?_
        refine c_region ?_
        refine seq_yl hF (wn_none rfl) rfl rfl (yl_fieldAddr hF rfl rfl (fun w => by kernel_rfl : ∀ w, (Instr.fieldAt 43 (.pointer (some ⟨g488, 0, none⟩)) 1).run Try.prog w = .ok (.pointer (some ⟨g488, 1, none⟩)) w)) ?_; clear hF; intro a hF
        refine seq_yl hF (wn_none rfl) rfl rfl (yl_load (fun _ h => h ▸ hS) hF rfl rfl 1 rfl ag41 rfl) ?_; clear hF; intro a hF
        refine seq_yl hF (wn_none rfl) rfl rfl (yl_len hF rfl rfl (fun _ => run_lenRd sl41 (hS.rdRo 3 rfl))) ?_; clear hF; intro a hF
        refine seq_yl hF (wn_none rfl) rfl rfl (yl_fieldAddr hF rfl rfl (fun w => by kernel_rfl : ∀ w, (Instr.fieldAt 43 (.pointer (some ⟨g488, 0, none⟩)) 2).run Try.prog w = .ok (.pointer (some ⟨g488, 2, none⟩)) w)) ?_; clear hF; intro a hF
        refine seq_yl hF (wn_none rfl) rfl rfl (yl_load (fun _ h => h ▸ hS) hF rfl rfl 1 rfl ag3 rfl) ?_; clear hF; intro a hF
        refine seq_yl hF (wn_none rfl) rfl rfl (yl_bin hF rfl rfl rfl rfl (fun _ => run_eql)) ?_; clear hF; intro a hF
        refine wpList_nil ?_
        refine then_n ?_
        refine c_cond hF rfl (fun hc513 => ?_) (fun hc513 => ?_)
        ·first | (replace hc513 := of_decide_eq_true hc513) | (replace hc513 := of_decide_eq_false (bnot_t hc513)) | (replace hc513 := bnot_t hc513) | skip
         try (have hc513x := hc513; simp only [okS, okI, okW, okP] at hc513x)
         refine c_region ?_
         refine seq_yl hF (wn_none rfl) rfl rfl (yl_loadK (rs := [_, _, _]) (fun _ h => h ▸ hS) hF rfl rfl 1 rfl ag43 sz43 rfl rfl) ?_; clear hF; intro a hF
         refine seq_wp (wn_none rfl) (wp_call (vs := [_, _]) hF rfl rfl rfl rfl cf73 (dest2_any st1 _ L1 (rm) (0 : Int) _ (hS.rdRo 3 rfl) (by first | omega | (simp; done)) (by first | omega | (simp; done))) ?_)
         clear hF; rintro _ w ⟨st514, v515, Lq516, rm517, b518, rfl, hq519, hS1⟩ a hF
         replace hS := hS.callB hS1 rfl; clear hS1
         obtain ⟨Av515, cv515, rfl⟩ := hS.form 0 rfl
         have hq519b := destF_bd hq519
         obtain ⟨p520, hp520⟩ := get_some (L := L1) (k := 0) (by have h8 := okD_I hd1; omega)
         have h8 := (destF_at hd1 hp520).symm.trans hq519; injection h8 with e1 h8; injection h8 with e2 h8; injection h8 with e3 e4; subst e1 e2 e3 e4
         have hq519k := dest_ok hd1 hp520
         have hq519f := fl_step (st := st1) hp520
         have hq519n := len_selL (s := p520.f0) (old := (fun i => decide (i ≤ ((0 : Nat) : Int)))) L1 0
         refine mvN hF rfl rfl rfl rfl rfl ?_; clear hF; intro a hF
         refine seq_yl hF (wn_none rfl) rfl rfl (yl_extract hF rfl rfl rfl) ?_; clear hF; intro a hF
         refine seq_yl hF (wn_none rfl) rfl rfl (yl_extract hF rfl rfl rfl) ?_; clear hF; intro a hF
         refine seq_wp (wn_none rfl) (wp_store (cs' := #[_, _, _]) hF hS rfl rfl rfl rfl 2 rfl sz43 (by simp [Value.cells, Value.oneCell']) (by simp [Value.cells]) rfl ?_)
         clear hF hS; intro a w hF hS
         refine wpList_nil ?_
         refine then_n ?_
         refine ha_startS hS [2, 1] 7 (by kernel_rfl) ?_; clear hS; intro w hS
         have hSS := hS.sub [2, 1] (by decide) rfl (by simp)
         refine ha_y 0 hF rfl rfl rfl (wn_none rfl) (.inr hSS) (yl_fieldAddr hF rfl rfl (fun w => by kernel_rfl : ∀ w, (Instr.fieldAt 43 (.pointer (some ⟨g488, 0, none⟩)) 1).run Try.prog w = .ok (.pointer (some ⟨g488, 1, none⟩)) w)) ?_; clear hF; intro a hF
         refine ha_l 1 hF rfl rfl rfl (wn_none rfl) hSS (yl_load (fun _ h => h) hF rfl rfl 0 rfl ag41 rfl) ?_; clear hF; intro a hF
         refine ha_l 3 hF rfl rfl rfl (wn_none rfl) hSS (yl_loadK (rs := [_, _]) (fun _ h => h) hF rfl rfl 1 rfl ag67 sz67 rfl rfl) ?_; clear hF; intro a hF
         refine ha_all (rs := [2, 4]) (by kernel_rfl) (by simp) ?_
         refine List.forall_mem_cons.2 ⟨?_, List.forall_mem_cons.2 ⟨?_, (fun _ h => by cases h)⟩⟩
         ·skip
          refine ha_op 2 rfl (wn_none rfl) (wp_app0 (enc := enc67) hF hS rfl rfl rfl rfl rfl sl41 inf67 rfl (by decide) (hS.rdRow 0 rfl) enc67_one (by decide) (by first | omega | (simp only [List.length_append, List.length_cons, List.length_nil]; omega) | (simp; omega)) ?_)
          clear hF hS; intro a w v521 hF hS
          obtain ⟨Av521, cv521, rfl⟩ := hS.form 0 rfl
          replace hSS := hS.sub [3, 2] (by decide) rfl (by simp)
          refine ⟨.inr hSS, ?_⟩
          refine ha_one 4 (by kernel_rfl) rfl (wn_none rfl) (wp_bslice (parts := [(0, .tmp 90)]) (vs := [(0, _)]) (enc := enc67) (e := 67) (size := 2) (cs := #[.int .i64 (((s) + ((k : Nat) : Int))), .string (subs x ((((k : Nat) : Int) * (8 : Int))) (((((k + 1) : Nat) : Int) * (8 : Int))))]) hF hS rfl rfl rfl rfl ([(E67.mk (((s) + ((k : Nat) : Int))) (subs x ((((k : Nat) : Int) * (8 : Int))) (((((k + 1) : Nat) : Int) * (8 : Int)))))] : List E67) (fun w => by kernel_rfl) rfl rfl rfl (by decide) ?_)
          clear hF hS; intro a w v522 hF hS
          obtain ⟨Av522, cv522, rfl⟩ := hS.form 0 rfl
          replace hSS := hS.sub [4, 3] (by decide) rfl (by simp)
          refine ⟨.inr hSS, ?_⟩
          refine ha_one 5 (by kernel_rfl) rfl (wn_none rfl) (wp_app (enc := enc67) hF hS rfl rfl rfl rfl rfl 1 rfl sl41 inf67 rfl (by decide) (hS.rdRow 0 rfl) enc67_one (by decide) (by first | omega | (simp only [List.length_append, List.length_cons, List.length_nil]; omega) | (simp; omega)) ?_)
          clear hF hS; intro a w v523 hF hS
          obtain ⟨Av523, cv523, rfl⟩ := hS.form 1 rfl
          replace hSS := hS.sub [4, 3] (by decide) rfl (by simp)
          refine ⟨.inr hSS, ?_⟩
          refine ha_y 6 hF rfl rfl rfl (wn_none rfl) (.inr hSS) (yl_fieldAddr hF rfl rfl (fun w => by kernel_rfl : ∀ w, (Instr.fieldAt 43 (.pointer (some ⟨g488, 0, none⟩)) 1).run Try.prog w = .ok (.pointer (some ⟨g488, 1, none⟩)) w)) ?_; clear hF; intro a hF
          refine ha_one 7 (by kernel_rfl) rfl (wn_none rfl) (wp_store (cs' := #[_, _, _]) hF hS rfl rfl rfl rfl 4 rfl sz41 (by simp [Value.cells, Value.oneCell']) (by simp [Value.cells]) rfl ?_)
          clear hF hS; intro a w hF hS
          refine ⟨.inl (by kernel_rfl), ?_⟩
          refine ha_done (by kernel_rfl) ?_ _
          refine inb_n ?_
          refine then_n ?_
          refine c_region ?_
          refine mvN hF rfl rfl rfl rfl rfl ?_; clear hF; intro a hF
          refine seq_yl hF (wn_none rfl) rfl rfl (yl_bin hF rfl rfl rfl rfl (fun _ => run_inc (by omega))) ?_; clear hF; intro a hF
          refine asN hF rfl rfl rfl rfl rfl ?_; clear hF; intro a hF
          refine wpList_nil ?_
          refine then_n ?_
          have hp1 : put1 st1 L1 rm (s + (k : Int)) (subs x ((k : Int) * 8) (((k + 1 : Nat) : Int) * 8)) fua = ((wim st1 p520.f0 p520.f1), ((selL p520.f0 (fun i => decide (i ≤ ((0 : Nat) : Int))) 0 L1) ++ ([(E67.mk (((s) + ((k : Nat) : Int))) (subs x ((((k : Nat) : Int) * (8 : Int))) (((((k + 1) : Nat) : Int) * (8 : Int)))))] : List E67))) := put1_2 (by assumption) (by omega) (by omega) hp520
          exact ⟨_, (by omega), k + 1, (wim st1 p520.f0 p520.f1), ((selL p520.f0 (fun i => decide (i ≤ ((0 : Nat) : Int))) 0 L1) ++ ([(E67.mk (((s) + ((k : Nat) : Int))) (subs x ((((k : Nat) : Int) * (8 : Int))) (((((k + 1) : Nat) : Int) * (8 : Int)))))] : List E67)), Av523, cv523, true, rfl, ⟨by omega, wrN_succ hw hp1, fun _ => rfl⟩, hF.to [1, 2, 3, 4, 8, 10] rfl, (hS.sub [4, 5, 1] (by decide) (by first | rfl | simp) (by simp))⟩
         ·skip
          refine ha_op 4 rfl (wn_none rfl) (wp_bslice (parts := [(0, .tmp 90)]) (vs := [(0, _)]) (enc := enc67) (e := 67) (size := 2) (cs := #[.int .i64 (((s) + ((k : Nat) : Int))), .string (subs x ((((k : Nat) : Int) * (8 : Int))) (((((k + 1) : Nat) : Int) * (8 : Int))))]) hF hS rfl rfl rfl rfl ([(E67.mk (((s) + ((k : Nat) : Int))) (subs x ((((k : Nat) : Int) * (8 : Int))) (((((k + 1) : Nat) : Int) * (8 : Int)))))] : List E67) (fun w => by kernel_rfl) rfl rfl rfl (by decide) ?_)
          clear hF hS; intro a w v524 hF hS
          obtain ⟨Av524, cv524, rfl⟩ := hS.form 0 rfl
          replace hSS := hS.sub [3, 2] (by decide) rfl (by simp)
          refine ⟨.inr hSS, ?_⟩
          refine ha_one 2 (by kernel_rfl) rfl (wn_none rfl) (wp_app0 (enc := enc67) hF hS rfl rfl rfl rfl rfl sl41 inf67 rfl (by decide) (hS.rdRow 1 rfl) enc67_one (by decide) (by first | omega | (simp only [List.length_append, List.length_cons, List.length_nil]; omega) | (simp; omega)) ?_)
          clear hF hS; intro a w v525 hF hS
          obtain ⟨Av525, cv525, rfl⟩ := hS.form 0 rfl
          replace hSS := hS.sub [4, 3] (by decide) rfl (by simp)
          refine ⟨.inr hSS, ?_⟩
          refine ha_one 5 (by kernel_rfl) rfl (wn_none rfl) (wp_app (enc := enc67) hF hS rfl rfl rfl rfl rfl 0 rfl sl41 inf67 rfl (by decide) (hS.rdRow 1 rfl) enc67_one (by decide) (by first | omega | (simp only [List.length_append, List.length_cons, List.length_nil]; omega) | (simp; omega)) ?_)
          clear hF hS; intro a w v526 hF hS
          obtain ⟨Av526, cv526, rfl⟩ := hS.form 0 rfl
          replace hSS := hS.sub [4, 3] (by decide) rfl (by simp)
          refine ⟨.inr hSS, ?_⟩
          refine ha_y 6 hF rfl rfl rfl (wn_none rfl) (.inr hSS) (yl_fieldAddr hF rfl rfl (fun w => by kernel_rfl : ∀ w, (Instr.fieldAt 43 (.pointer (some ⟨g488, 0, none⟩)) 1).run Try.prog w = .ok (.pointer (some ⟨g488, 1, none⟩)) w)) ?_; clear hF; intro a hF
          refine ha_one 7 (by kernel_rfl) rfl (wn_none rfl) (wp_store (cs' := #[_, _, _]) hF hS rfl rfl rfl rfl 4 rfl sz41 (by simp [Value.cells, Value.oneCell']) (by simp [Value.cells]) rfl ?_)
          clear hF hS; intro a w hF hS
          refine ⟨.inl (by kernel_rfl), ?_⟩
          refine ha_done (by kernel_rfl) ?_ _
          refine inb_n ?_
          refine then_n ?_
          refine c_region ?_
          refine mvN hF rfl rfl rfl rfl rfl ?_; clear hF; intro a hF
          refine seq_yl hF (wn_none rfl) rfl rfl (yl_bin hF rfl rfl rfl rfl (fun _ => run_inc (by omega))) ?_; clear hF; intro a hF
          refine asN hF rfl rfl rfl rfl rfl ?_; clear hF; intro a hF
          refine wpList_nil ?_
          refine then_n ?_
          have hp1 : put1 st1 L1 rm (s + (k : Int)) (subs x ((k : Int) * 8) (((k + 1 : Nat) : Int) * 8)) fua = ((wim st1 p520.f0 p520.f1), ((selL p520.f0 (fun i => decide (i ≤ ((0 : Nat) : Int))) 0 L1) ++ ([(E67.mk (((s) + ((k : Nat) : Int))) (subs x ((((k : Nat) : Int) * (8 : Int))) (((((k + 1) : Nat) : Int) * (8 : Int)))))] : List E67))) := put1_2 (by assumption) (by omega) (by omega) hp520
          exact ⟨_, (by omega), k + 1, (wim st1 p520.f0 p520.f1), ((selL p520.f0 (fun i => decide (i ≤ ((0 : Nat) : Int))) 0 L1) ++ ([(E67.mk (((s) + ((k : Nat) : Int))) (subs x ((((k : Nat) : Int) * (8 : Int))) (((((k + 1) : Nat) : Int) * (8 : Int)))))] : List E67)), Av526, cv526, true, rfl, ⟨by omega, wrN_succ hw hp1, fun _ => rfl⟩, hF.to [1, 2, 3, 4, 8, 10] rfl, (hS.sub [4, 5, 0] (by decide) (by first | rfl | simp) (by simp))⟩
        ·first | (replace hc513 := of_decide_eq_false hc513) | (replace hc513 := of_decide_eq_true (bnot_f hc513)) | (replace hc513 := bnot_f hc513) | skip
         try (have hc513x := hc513; simp only [okS, okI, okW, okP] at hc513x)
         refine wp_skip ?_
         refine then_n ?_
         refine ha_startS hS [1, 0] 7 (by kernel_rfl) ?_; clear hS; intro w hS
         have hSS := hS.sub [1, 0] (by decide) rfl (by simp)
         refine ha_y 0 hF rfl rfl rfl (wn_none rfl) (.inr hSS) (yl_fieldAddr hF rfl rfl (fun w => by kernel_rfl : ∀ w, (Instr.fieldAt 43 (.pointer (some ⟨g488, 0, none⟩)) 1).run Try.prog w = .ok (.pointer (some ⟨g488, 1, none⟩)) w)) ?_; clear hF; intro a hF
         refine ha_l 1 hF rfl rfl rfl (wn_none rfl) hSS (yl_load (fun _ h => h) hF rfl rfl 0 rfl ag41 rfl) ?_; clear hF; intro a hF
         refine ha_l 3 hF rfl rfl rfl (wn_none rfl) hSS (yl_loadK (rs := [_, _]) (fun _ h => h) hF rfl rfl 1 rfl ag67 sz67 rfl rfl) ?_; clear hF; intro a hF
         refine ha_all (rs := [2, 4]) (by kernel_rfl) (by simp) ?_
         refine List.forall_mem_cons.2 ⟨?_, List.forall_mem_cons.2 ⟨?_, (fun _ h => by cases h)⟩⟩
         ·skip
          refine ha_op 2 rfl (wn_none rfl) (wp_app0 (enc := enc67) hF hS rfl rfl rfl rfl rfl sl41 inf67 rfl (by decide) (hS.rdRo 3 rfl) enc67_one (by decide) (by first | omega | (simp only [List.length_append, List.length_cons, List.length_nil]; omega) | (simp; omega)) ?_)
          clear hF hS; intro a w v527 hF hS
          obtain ⟨Av527, cv527, rfl⟩ := hS.form 0 rfl
          replace hSS := hS.sub [2, 1] (by decide) rfl (by simp)
          refine ⟨.inr hSS, ?_⟩
          refine ha_one 4 (by kernel_rfl) rfl (wn_none rfl) (wp_bslice (parts := [(0, .tmp 90)]) (vs := [(0, _)]) (enc := enc67) (e := 67) (size := 2) (cs := #[.int .i64 (((s) + ((k : Nat) : Int))), .string (subs x ((((k : Nat) : Int) * (8 : Int))) (((((k + 1) : Nat) : Int) * (8 : Int))))]) hF hS rfl rfl rfl rfl ([(E67.mk (((s) + ((k : Nat) : Int))) (subs x ((((k : Nat) : Int) * (8 : Int))) (((((k + 1) : Nat) : Int) * (8 : Int)))))] : List E67) (fun w => by kernel_rfl) rfl rfl rfl (by decide) ?_)
          clear hF hS; intro a w v528 hF hS
          obtain ⟨Av528, cv528, rfl⟩ := hS.form 0 rfl
          replace hSS := hS.sub [3, 2] (by decide) rfl (by simp)
          refine ⟨.inr hSS, ?_⟩
          refine ha_one 5 (by kernel_rfl) rfl (wn_none rfl) (wp_app (enc := enc67) hF hS rfl rfl rfl rfl rfl 1 rfl sl41 inf67 rfl (by decide) (hS.rdRow 0 rfl) enc67_one (by decide) (by first | omega | (simp only [List.length_append, List.length_cons, List.length_nil]; omega) | (simp; omega)) ?_)
          clear hF hS; intro a w v529 hF hS
          obtain ⟨Av529, cv529, rfl⟩ := hS.form 1 rfl
          replace hSS := hS.sub [3, 2] (by decide) rfl (by simp)
          refine ⟨.inr hSS, ?_⟩
          refine ha_y 6 hF rfl rfl rfl (wn_none rfl) (.inr hSS) (yl_fieldAddr hF rfl rfl (fun w => by kernel_rfl : ∀ w, (Instr.fieldAt 43 (.pointer (some ⟨g488, 0, none⟩)) 1).run Try.prog w = .ok (.pointer (some ⟨g488, 1, none⟩)) w)) ?_; clear hF; intro a hF
          refine ha_one 7 (by kernel_rfl) rfl (wn_none rfl) (wp_store (cs' := #[_, _, _]) hF hS rfl rfl rfl rfl 3 rfl sz41 (by simp [Value.cells, Value.oneCell']) (by simp [Value.cells]) rfl ?_)
          clear hF hS; intro a w hF hS
          refine ⟨.inl (by kernel_rfl), ?_⟩
          refine ha_done (by kernel_rfl) ?_ _
          refine inb_n ?_
          refine then_n ?_
          refine c_region ?_
          refine mvN hF rfl rfl rfl rfl rfl ?_; clear hF; intro a hF
          refine seq_yl hF (wn_none rfl) rfl rfl (yl_bin hF rfl rfl rfl rfl (fun _ => run_inc (by omega))) ?_; clear hF; intro a hF
          refine asN hF rfl rfl rfl rfl rfl ?_; clear hF; intro a hF
          refine wpList_nil ?_
          refine then_n ?_
          have hp1 : put1 st1 L1 rm (s + (k : Int)) (subs x ((k : Int) * 8) (((k + 1 : Nat) : Int) * 8)) fua = (st1, (L1 ++ ([(E67.mk (((s) + ((k : Nat) : Int))) (subs x ((((k : Nat) : Int) * (8 : Int))) (((((k + 1) : Nat) : Int) * (8 : Int)))))] : List E67))) := put1_3 (by assumption) (by omega) (by omega)
          exact ⟨_, (by omega), k + 1, st1, (L1 ++ ([(E67.mk (((s) + ((k : Nat) : Int))) (subs x ((((k : Nat) : Int) * (8 : Int))) (((((k + 1) : Nat) : Int) * (8 : Int)))))] : List E67)), Av529, cv529, true, rfl, ⟨by omega, wrN_succ hw hp1, fun _ => rfl⟩, hF.to [1, 2, 3, 4, 8, 10] rfl, (hS.sub [3, 4, 1] (by decide) (by first | rfl | simp) (by simp))⟩
         ·skip
          refine ha_op 4 rfl (wn_none rfl) (wp_bslice (parts := [(0, .tmp 90)]) (vs := [(0, _)]) (enc := enc67) (e := 67) (size := 2) (cs := #[.int .i64 (((s) + ((k : Nat) : Int))), .string (subs x ((((k : Nat) : Int) * (8 : Int))) (((((k + 1) : Nat) : Int) * (8 : Int))))]) hF hS rfl rfl rfl rfl ([(E67.mk (((s) + ((k : Nat) : Int))) (subs x ((((k : Nat) : Int) * (8 : Int))) (((((k + 1) : Nat) : Int) * (8 : Int)))))] : List E67) (fun w => by kernel_rfl) rfl rfl rfl (by decide) ?_)
          clear hF hS; intro a w v530 hF hS
          obtain ⟨Av530, cv530, rfl⟩ := hS.form 0 rfl
          replace hSS := hS.sub [2, 1] (by decide) rfl (by simp)
          refine ⟨.inr hSS, ?_⟩
          refine ha_one 2 (by kernel_rfl) rfl (wn_none rfl) (wp_app0 (enc := enc67) hF hS rfl rfl rfl rfl rfl sl41 inf67 rfl (by decide) (hS.rdRo 4 rfl) enc67_one (by decide) (by first | omega | (simp only [List.length_append, List.length_cons, List.length_nil]; omega) | (simp; omega)) ?_)
          clear hF hS; intro a w v531 hF hS
          obtain ⟨Av531, cv531, rfl⟩ := hS.form 0 rfl
          replace hSS := hS.sub [3, 2] (by decide) rfl (by simp)
          refine ⟨.inr hSS, ?_⟩
          refine ha_one 5 (by kernel_rfl) rfl (wn_none rfl) (wp_app (enc := enc67) hF hS rfl rfl rfl rfl rfl 0 rfl sl41 inf67 rfl (by decide) (hS.rdRow 1 rfl) enc67_one (by decide) (by first | omega | (simp only [List.length_append, List.length_cons, List.length_nil]; omega) | (simp; omega)) ?_)
          clear hF hS; intro a w v532 hF hS
          obtain ⟨Av532, cv532, rfl⟩ := hS.form 0 rfl
          replace hSS := hS.sub [3, 2] (by decide) rfl (by simp)
          refine ⟨.inr hSS, ?_⟩
          refine ha_y 6 hF rfl rfl rfl (wn_none rfl) (.inr hSS) (yl_fieldAddr hF rfl rfl (fun w => by kernel_rfl : ∀ w, (Instr.fieldAt 43 (.pointer (some ⟨g488, 0, none⟩)) 1).run Try.prog w = .ok (.pointer (some ⟨g488, 1, none⟩)) w)) ?_; clear hF; intro a hF
          refine ha_one 7 (by kernel_rfl) rfl (wn_none rfl) (wp_store (cs' := #[_, _, _]) hF hS rfl rfl rfl rfl 3 rfl sz41 (by simp [Value.cells, Value.oneCell']) (by simp [Value.cells]) rfl ?_)
          clear hF hS; intro a w hF hS
          refine ⟨.inl (by kernel_rfl), ?_⟩
          refine ha_done (by kernel_rfl) ?_ _
          refine inb_n ?_
          refine then_n ?_
          refine c_region ?_
          refine mvN hF rfl rfl rfl rfl rfl ?_; clear hF; intro a hF
          refine seq_yl hF (wn_none rfl) rfl rfl (yl_bin hF rfl rfl rfl rfl (fun _ => run_inc (by omega))) ?_; clear hF; intro a hF
          refine asN hF rfl rfl rfl rfl rfl ?_; clear hF; intro a hF
          refine wpList_nil ?_
          refine then_n ?_
          have hp1 : put1 st1 L1 rm (s + (k : Int)) (subs x ((k : Int) * 8) (((k + 1 : Nat) : Int) * 8)) fua = (st1, (L1 ++ ([(E67.mk (((s) + ((k : Nat) : Int))) (subs x ((((k : Nat) : Int) * (8 : Int))) (((((k + 1) : Nat) : Int) * (8 : Int)))))] : List E67))) := put1_3 (by assumption) (by omega) (by omega)
          exact ⟨_, (by omega), k + 1, st1, (L1 ++ ([(E67.mk (((s) + ((k : Nat) : Int))) (subs x ((((k : Nat) : Int) * (8 : Int))) (((((k + 1) : Nat) : Int) * (8 : Int)))))] : List E67)), Av532, cv532, true, rfl, ⟨by omega, wrN_succ hw hp1, fun _ => rfl⟩, hF.to [1, 2, 3, 4, 8, 10] rfl, (hS.sub [3, 4, 0] (by decide) (by first | rfl | simp) (by simp))⟩
     ·first | (replace hc496 := of_decide_eq_false hc496) | (replace hc496 := of_decide_eq_true (bnot_f hc496)) | (replace hc496 := bnot_f hc496) | skip
      try (have hc496x := hc496; simp only [okS, okI, okW, okP] at hc496x)
      refine wp_exit ?_
      refine then_x ?_
      refine then_x ?_
      refine inb_x ?_
      refine then_n ?_
      refine c_seq ?_
      refine c_region ?_
      obtain rfl := how (by omega); simp only [pickC] at hS0; replace hS := hS0
      refine seq_yl hF (wn_none rfl) rfl rfl (yl_loadK (rs := [_, _, _]) (fun _ h => h ▸ hS) hF rfl rfl 0 rfl ag43 sz43 rfl rfl) ?_; clear hF; intro a hF
      refine seq_wp (wn_none rfl) (wp_store (cs' := #[_, _, _]) hF hS rfl rfl rfl rfl 1 rfl sz43 (by simp [Value.cells, Value.oneCell']) (by simp [Value.cells]) rfl ?_)
      clear hF hS; intro a w hF hS
      refine asN hF rfl rfl rfl rfl rfl ?_; clear hF; intro a hF
      refine wpList_nil ?_
      refine then_n ?_
      refine wp_ret ?_
      refine ret_ct hF rfl (resC hS rfl 1 rfl ag43 sz43) rfl ?_
      exact ⟨_, rfl, _, _, _, _, _, rfl, wrN_end hw hd9 hw9 (by omega), (hS.sub [2] (by decide) (by first | rfl | simp) (by simp))⟩

end Go.Proofs.Ytkejcnhfbfgphaa

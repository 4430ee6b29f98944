/- walks, printed by wip/gen -/
import Derived.Test.YtkejcnhfbfgphaaX2
namespace Go.Proofs.Ytkejcnhfbfgphaa
open Go.RowKit
set_option linter.unusedVariables false
set_option linter.unusedSimpArgs false

set_option maxRecDepth 100000 in
theorem read2_any (st : ByteArray) (lv : Value) (L : List E67) (rm : Int) (s c : Int) (w0 : World) (hv : Rd w0 2 lv (L).length (cells enc67 (L))) (hz : (st.size : Int) ≤ 9223372036854775807) (hL : L.length ≤ 1000000) :
  Fn Try.prog 31 #[.agg #[.string st, lv, .int .i64 rm], .int .i64 s, .int .i64 c] w0 (fun v w' => v = .tuple #[.string (readF st L rm s c).1, .bool (readF st L rm s c).2] ∧ Sat w0 w' []) := by
 obtain ⟨Alv, clv, rfl⟩ := Rd.form hv
 refine c_enter (N := 45) (l := [_, _, _]) Try.func31 rfl rfl (fun a w hF hS => ?_)
 replace hS := hS.addRo hv
 refine c_seq ?_
 refine c_region ?_
 refine seq_wp (wn_none rfl) (wp_box (cs := #[_, _, _]) hF hS rfl rfl rfl rfl rfl ?_)
 clear hF hS; intro a w g442 hF hS
 refine asN hF rfl rfl rfl rfl rfl ?_; clear hF; intro a hF
 refine asN hF rfl rfl rfl rfl rfl ?_; clear hF; intro a hF
 refine wpList_nil ?_
 refine then_n ?_
 refine c_seq ?_
 refine c_seq ?_
 refine c_region ?_
 refine seq_yl hF (wn_none rfl) rfl rfl (yl_loadK (rs := [_, _, _]) (fun _ h => h ▸ hS) hF rfl rfl 0 rfl ag43 sz43 rfl rfl) ?_; clear hF; intro a hF
 refine seq_wp (wn_none rfl) (wp_call (vs := [_]) hF rfl rfl rfl rfl cf44 (dValid2_any st _ L (rm) _ (hS.rdRo 1 rfl) (by first | omega | (simp; done)) (by first | omega | (simp; done))) ?_)
 clear hF; rintro _ w ⟨rfl, hS1⟩ a hF
 replace hS := hS.callB hS1 rfl; clear hS1
 refine seq_yl hF (wn_none rfl) rfl rfl (yl_un hF rfl rfl (fun _ => run_not)) ?_; clear hF; intro a hF
 refine mvN hF rfl rfl rfl rfl rfl ?_; clear hF; intro a hF
 refine fr_split hF (fun hc443 hF => ?_) (fun hc443 hF => ?_)
 ·first | (replace hc443 := of_decide_eq_true hc443) | (replace hc443 := of_decide_eq_false (bnot_t hc443)) | (subst hc443) | (replace hc443 := bnot_t hc443; subst hc443) | (replace hc443 := bnot_t hc443) | skip
  try (have hc443x := hc443; simp only [okS, okI, okW, okP] at hc443x)
  refine skF hF rfl rfl rfl rfl rfl rfl ?_; clear hF; intro a hF
  refine skF hF rfl rfl rfl rfl rfl rfl ?_; clear hF; intro a hF
  refine seq_yl hF (wn_none rfl) rfl rfl (pkT hF rfl rfl rfl) ?_; clear hF; intro a hF
  refine mvN hF rfl rfl rfl rfl rfl ?_; clear hF; intro a hF
  refine skF hF rfl rfl rfl rfl rfl rfl ?_; clear hF; intro a hF
  refine skF hF rfl rfl rfl rfl rfl rfl ?_; clear hF; intro a hF
  refine skF hF rfl rfl rfl rfl rfl rfl ?_; clear hF; intro a hF
  refine skF hF rfl rfl rfl rfl rfl rfl ?_; clear hF; intro a hF
  refine skF hF rfl rfl rfl rfl rfl rfl ?_; clear hF; intro a hF
  refine skF hF rfl rfl rfl rfl rfl rfl ?_; clear hF; intro a hF
  refine seq_yl hF (wn_none rfl) rfl rfl (pkT hF rfl rfl rfl) ?_; clear hF; intro a hF
  refine wpList_nil ?_
  refine then_n ?_
  refine c_cond_t hF rfl ?_
  refine c_seq ?_
  refine c_region ?_
  refine asN hF rfl rfl rfl rfl rfl ?_; clear hF; intro a hF
  refine asN hF rfl rfl rfl rfl rfl ?_; clear hF; intro a hF
  refine wpList_nil ?_
  refine then_n ?_
  refine wp_ret ?_
  refine then_r ?_
  refine ret_tt hF rfl rfl rfl ?_
  have hrd := (read_no (st := st) (L := L) (rm := rm) (s := s) (c := c) (fun h9 => by have h8 := h9.2; have h7 := okD_I h9.1; simp only [okW, okS, okI] at h8; first | exact absurd h9.1 (by assumption) | exact absurd h9.2 (by assumption) | omega))
  rw [hrd]; exact ⟨_, rfl, rfl, (hS.sub [] (by decide) (by first | rfl | simp) (by simp))⟩
 ·first | (replace hc443 := of_decide_eq_false hc443) | (replace hc443 := of_decide_eq_true (bnot_f hc443)) | (subst hc443) | (replace hc443 := bnot_f hc443; subst hc443) | (replace hc443 := bnot_f hc443) | skip
  try (have hc443x := hc443; simp only [okS, okI, okW, okP] at hc443x)
  refine seq_yl hF (wn_t hF rfl rfl rfl rfl) rfl rfl (yl_move hF rfl rfl) ?_; clear hF; intro a hF
  refine seq_yl hF (wn_t hF rfl rfl rfl rfl) rfl rfl (yl_bin hF rfl rfl rfl rfl (fun _ => run_lss)) ?_; clear hF; intro a hF
  refine seq_yl hF (wn_none rfl) rfl rfl (pkF hF rfl rfl rfl) ?_; clear hF; intro a hF
  refine mvN hF rfl rfl rfl rfl rfl ?_; clear hF; intro a hF
  refine fr_split hF (fun hc444 hF => ?_) (fun hc444 hF => ?_)
  ·first | (replace hc444 := of_decide_eq_true hc444) | (replace hc444 := of_decide_eq_false (bnot_t hc444)) | (subst hc444) | (replace hc444 := bnot_t hc444; subst hc444) | (replace hc444 := bnot_t hc444) | skip
   try (have hc444x := hc444; simp only [okS, okI, okW, okP] at hc444x)
   refine skF hF rfl rfl rfl rfl rfl rfl ?_; clear hF; intro a hF
   refine skF hF rfl rfl rfl rfl rfl rfl ?_; clear hF; intro a hF
   refine skF hF rfl rfl rfl rfl rfl rfl ?_; clear hF; intro a hF
   refine skF hF rfl rfl rfl rfl rfl rfl ?_; clear hF; intro a hF
   refine skF hF rfl rfl rfl rfl rfl rfl ?_; clear hF; intro a hF
   refine skF hF rfl rfl rfl rfl rfl rfl ?_; clear hF; intro a hF
   refine seq_yl hF (wn_none rfl) rfl rfl (pkT hF rfl rfl rfl) ?_; clear hF; intro a hF
   refine wpList_nil ?_
   refine then_n ?_
   refine c_cond_t hF rfl ?_
   refine c_seq ?_
   refine c_region ?_
   refine asN hF rfl rfl rfl rfl rfl ?_; clear hF; intro a hF
   refine asN hF rfl rfl rfl rfl rfl ?_; clear hF; intro a hF
   refine wpList_nil ?_
   refine then_n ?_
   refine wp_ret ?_
   refine then_r ?_
   refine ret_tt hF rfl rfl rfl ?_
   have hrd := (read_no (st := st) (L := L) (rm := rm) (s := s) (c := c) (fun h9 => by have h8 := h9.2; have h7 := okD_I h9.1; simp only [okW, okS, okI] at h8; first | exact absurd h9.1 (by assumption) | exact absurd h9.2 (by assumption) | omega))
   rw [hrd]; exact ⟨_, rfl, rfl, (hS.sub [] (by decide) (by first | rfl | simp) (by simp))⟩
  ·first | (replace hc444 := of_decide_eq_false hc444) | (replace hc444 := of_decide_eq_true (bnot_f hc444)) | (subst hc444) | (replace hc444 := bnot_f hc444; subst hc444) | (replace hc444 := bnot_f hc444) | skip
   try (have hc444x := hc444; simp only [okS, okI, okW, okP] at hc444x)
   refine seq_yl hF (wn_t hF rfl rfl rfl rfl) rfl rfl (yl_move hF rfl rfl) ?_; clear hF; intro a hF
   refine seq_yl hF (wn_t hF rfl rfl rfl rfl) rfl rfl (yl_move hF rfl rfl) ?_; clear hF; intro a hF
   refine seq_yl hF (wn_t hF rfl rfl rfl rfl) rfl rfl (yl_loadK (rs := [_, _, _]) (fun _ h => h ▸ hS) hF rfl rfl 0 rfl ag43 sz43 rfl rfl) ?_; clear hF; intro a hF
   refine seq_wp (wn_t hF rfl rfl rfl rfl) (wp_call (vs := [_]) hF rfl rfl rfl rfl cf30 (secs_any st _ _ _ (by omega)) ?_)
   clear hF; rintro _ w ⟨rfl, hS1⟩ a hF
   replace hS := hS.callB hS1 rfl; clear hS1
   refine seq_wp (wn_t hF rfl rfl rfl rfl) (wp_call (vs := [_, _, _]) hF rfl rfl rfl rfl cf46 (in_any (s) (c) ((((st).size : Int) / 8)) _ (by omega)) ?_)
   clear hF; rintro _ w ⟨rfl, hS1⟩ a hF
   replace hS := hS.callB hS1 rfl; clear hS1
   refine seq_yl hF (wn_t hF rfl rfl rfl rfl) rfl rfl (yl_un hF rfl rfl (fun _ => run_not)) ?_; clear hF; intro a hF
   refine seq_yl hF (wn_none rfl) rfl rfl (pkF hF rfl rfl rfl) ?_; clear hF; intro a hF
   refine wpList_nil ?_
   refine then_n ?_
   refine c_cond hF rfl (fun hc445 => ?_) (fun hc445 => ?_)
   ·first | (replace hc445 := of_decide_eq_true hc445) | (replace hc445 := of_decide_eq_false (bnot_t hc445)) | (subst hc445) | (replace hc445 := bnot_t hc445; subst hc445) | (replace hc445 := bnot_t hc445) | skip
    try (have hc445x := hc445; simp only [okS, okI, okW, okP] at hc445x)
    refine c_seq ?_
    refine c_region ?_
    refine asN hF rfl rfl rfl rfl rfl ?_; clear hF; intro a hF
    refine asN hF rfl rfl rfl rfl rfl ?_; clear hF; intro a hF
    refine wpList_nil ?_
    refine then_n ?_
    refine wp_ret ?_
    refine then_r ?_
    refine ret_tt hF rfl rfl rfl ?_
    have hrd := (read_no (st := st) (L := L) (rm := rm) (s := s) (c := c) (fun h9 => by have h8 := h9.2; have h7 := okD_I h9.1; simp only [okW, okS, okI] at h8; first | exact absurd h9.1 (by assumption) | exact absurd h9.2 (by assumption) | omega))
    rw [hrd]; exact ⟨_, rfl, rfl, (hS.sub [] (by decide) (by first | rfl | simp) (by simp))⟩
   ·first | (replace hc445 := of_decide_eq_false hc445) | (replace hc445 := of_decide_eq_true (bnot_f hc445)) | (subst hc445) | (replace hc445 := bnot_f hc445; subst hc445) | (replace hc445 := bnot_f hc445) | skip
    try (have hc445x := hc445; simp only [okS, okI, okW, okP] at hc445x)
    refine wp_skip ?_
    refine then_n ?_
    refine c_seq ?_
    refine c_region ?_
    refine asN hF rfl rfl rfl rfl rfl ?_; clear hF; intro a hF
    refine wpList_nil ?_
    refine then_n ?_
    refine c_seq ?_
    refine c_seq ?_
    refine c_region ?_
    refine asN hF rfl rfl rfl rfl rfl ?_; clear hF; intro a hF
    refine wpList_nil ?_
    refine then_n ?_
    refine wp_block ?_
    have hd9 : okD st L rm := by assumption
    have hs9 : okS (st.size : Int) s c := by first | assumption | (have h8 := okD_I hd9; unfold okS okI; omega)
    have hs9x := hs9
    simp only [okS, okI] at hs9x
    refine c_loop (fun m a w => ∃ (k : Nat), m = (c - (k : Int)).toNat ∧ ((k : Int) ≤ c) ∧ Fr 45 a [(1, .int .i64 (s)), (2, .int .i64 (c)), (3, .pointer (some ⟨g442, 0, none⟩)), (8, .string (catF (newest st L) s k)), (9, .int .i64 ((k : Nat) : Int))] ∧ Sat w0 w (.box g442 43 #[.string st, .slice Alv (L).length clv, .int .i64 (rm)] :: .ro 2 (.slice Alv (L).length clv) (L).length (cells enc67 (L)) :: [])) ((c - ((0 : Nat) : Int)).toNat) ?_ ?_
    ·exact ⟨0, rfl, (by unfold okS at hs9; omega), hF.to [1, 2, 3, 8, 9] rfl, (hS.sub [0, 1] (by decide) (by first | rfl | simp) (by simp))⟩
    ·clear hF hS; try clear hSS
     clear a w; rintro m a w ⟨k, rfl, hinv, hF, hS⟩
     have hk : (k : Int) ≤ c := hinv
     have hacc := read_size hd9.2.2.2 hs9 (k := k) hk
     refine c_seq ?_
     refine c_seq ?_
     refine c_region ?_
     refine mvN hF rfl rfl rfl rfl rfl ?_; clear hF; intro a hF
     refine mvN hF rfl rfl rfl rfl rfl ?_; clear hF; intro a hF
     refine seq_yl hF (wn_none rfl) rfl rfl (yl_bin hF rfl rfl rfl rfl (fun _ => run_lss)) ?_; clear hF; intro a hF
     refine wpList_nil ?_
     refine then_n ?_
     refine c_cond hF rfl (fun hc446 => ?_) (fun hc446 => ?_)
     ·first | (replace hc446 := of_decide_eq_true hc446) | (replace hc446 := of_decide_eq_false (bnot_t hc446)) | (subst hc446) | (replace hc446 := bnot_t hc446; subst hc446) | (replace hc446 := bnot_t hc446) | skip
      try (have hc446x := hc446; simp only [okS, okI, okW, okP] at hc446x)
      refine wp_skip ?_
      refine then_n ?_
      refine c_seq ?_
      refine wp_block ?_
      refine c_seq ?_
      refine c_region ?_
      refine seq_yl hF (wn_none rfl) rfl rfl (yl_loadK (rs := [_, _, _]) (fun _ h => h ▸ hS) hF rfl rfl 0 rfl ag43 sz43 rfl rfl) ?_; clear hF; intro a hF
      refine mvN hF rfl rfl rfl rfl rfl ?_; clear hF; intro a hF
      refine mvN hF rfl rfl rfl rfl rfl ?_; clear hF; intro a hF
      refine seq_yl hF (wn_none rfl) rfl rfl (yl_bin hF rfl rfl rfl rfl (fun _ => run_add (by refine ⟨?_, ?_⟩ <;> omega))) ?_; clear hF; intro a hF
      refine seq_wp (wn_none rfl) (wp_call (vs := [_, _]) hF rfl rfl rfl rfl cf47 (vers2_any st _ L (rm) (((s) + ((k : Nat) : Int))) _ (hS.rdRo 1 rfl) (by first | omega | (simp; done)) (by first | omega | (simp; done))) ?_)
      clear hF; rintro _ w ⟨v447, M448, rfl, hM449, hS1⟩ a hF
      replace hS := hS.callB hS1 rfl; clear hS1
      obtain ⟨Av447, cv447, rfl⟩ := hS.form 0 rfl
      have hM449l := vers_len st L (rm) (((s) + ((k : Nat) : Int))); rw [← hM449] at hM449l
      have hM4492 : M448 = versC st L (((s) + ((k : Nat) : Int))) := hM449.trans (if_pos ⟨hd9, okS_in hs9 (i := (k : Int)) (by omega) (by omega)⟩)
      have hM449n := versC_len st L (((s) + ((k : Nat) : Int))); rw [← hM4492] at hM449n
      refine asN hF rfl rfl rfl rfl rfl ?_; clear hF; intro a hF
      refine wpList_nil ?_
      refine then_n ?_
      refine c_region ?_
      refine mvN hF rfl rfl rfl rfl rfl ?_; clear hF; intro a hF
      refine mvN hF rfl rfl rfl rfl rfl ?_; clear hF; intro a hF
      refine mvN hF rfl rfl rfl rfl rfl ?_; clear hF; intro a hF
      refine seq_yl hF (wn_none rfl) rfl rfl (yl_len hF rfl rfl (fun _ => run_lenRd sl76 (hS.rdRow 0 rfl))) ?_; clear hF; intro a hF
      refine seq_yl hF (wn_none rfl) rfl rfl (yl_bin hF rfl rfl rfl rfl (fun _ => run_dec (c := 1) (by omega) (by omega))) ?_; clear hF; intro a hF
      have hlt_hx450 : ((M448).length - 1) < (M448).length := by first | omega | (simp; done) | (simp; omega)
      obtain ⟨ad451, rfl⟩ := rd_some (hS.rdRow 0 rfl) hlt_hx450
      obtain ⟨x450, hx450⟩ := get_some hlt_hx450
      refine seq_yl hF (wn_none rfl) rfl rfl (yl_indexAddr hF rfl rfl rfl (fun _ => run_idx' sl76 sz9 (hS.rdRow 0 rfl) hlt_hx450)) ?_; clear hF; intro a hF
      refine seq_yl hF (wn_none rfl) rfl rfl (yl_loadAt hF rfl rfl ag9 (fun _ h => rd_cell0 (enc := encS) (by subst h; exact hS.rdRow 0 rfl) encS_len hx450 rfl rfl)) ?_; clear hF; intro a hF
      have hxn := newest_at (k := M448.length - 1) (by rw [← hM4492]; exact hx450) (by rw [← hM4492])
      have hxs := newest_size hd9.2.2.2 (okS_in hs9 (i := (k : Int)) (by omega) (by omega)); rw [← hxn] at hxs
      have hz452 := cat_size (catF (newest st L) s k) x450
      refine seq_yl hF (wn_none rfl) rfl rfl (yl_bin hF rfl rfl rfl rfl (fun _ => run_catS (x := (catF (newest st L) s k)) (y := x450) (by omega))) ?_; clear hF; intro a hF
      refine asN hF rfl rfl rfl rfl rfl ?_; clear hF; intro a hF
      refine wpList_nil ?_
      refine inb_n ?_
      refine then_n ?_
      refine c_region ?_
      refine mvN hF rfl rfl rfl rfl rfl ?_; clear hF; intro a hF
      refine seq_yl hF (wn_none rfl) rfl rfl (yl_bin hF rfl rfl rfl rfl (fun _ => run_inc (by omega))) ?_; clear hF; intro a hF
      refine asN hF rfl rfl rfl rfl rfl ?_; clear hF; intro a hF
      refine wpList_nil ?_
      refine then_n ?_
      rw [hxn] at hF
      exact ⟨_, (by omega), k + 1, rfl, (show _ ≤ _ by omega), hF.to [1, 2, 3, 8, 9] rfl, (hS.sub [1, 2] (by decide) (by first | rfl | simp) (by simp))⟩
     ·first | (replace hc446 := of_decide_eq_false hc446) | (replace hc446 := of_decide_eq_true (bnot_f hc446)) | (subst hc446) | (replace hc446 := bnot_f hc446; subst hc446) | (replace hc446 := bnot_f hc446) | skip
      try (have hc446x := hc446; simp only [okS, okI, okW, okP] at hc446x)
      refine wp_exit ?_
      refine then_x ?_
      refine then_x ?_
      refine inb_x ?_
      refine then_n ?_
      refine c_seq ?_
      refine c_region ?_
      refine mvN hF rfl rfl rfl rfl rfl ?_; clear hF; intro a hF
      refine asN hF rfl rfl rfl rfl rfl ?_; clear hF; intro a hF
      refine asN hF rfl rfl rfl rfl rfl ?_; clear hF; intro a hF
      refine wpList_nil ?_
      refine then_n ?_
      refine wp_ret ?_
      refine ret_tt hF rfl rfl rfl ?_
      have hrd := (read_yes (k := k) hd9 hs9 (by omega))
      rw [hrd]; exact ⟨_, rfl, rfl, (hS.sub [] (by decide) (by first | rfl | simp) (by simp))⟩

end Go.Proofs.Ytkejcnhfbfgphaa

/- walks, printed by wip/gen -/
import Derived.Test.YtlhcpeolkkadbaaW2
namespace Go.Proofs.Ytlhcpeolkkadbaa
open Go.RowKit
set_option linter.unusedVariables false
set_option linter.unusedSimpArgs false

set_option maxRecDepth 100000 in
theorem read2_any (st : ByteArray) (lv : Value) (L : List E59) (rm : Int) (s c : Int) (w0 : World) (hv : Rd w0 2 lv (L).length (cells enc59 (L))) (hz : (st.size : Int) ≤ 9223372036854775807) (hL : L.length ≤ 1000000) :
    Fn Try.prog 31 #[.agg #[.string st, lv, .int .i64 rm], .int .i64 s, .int .i64 c] w0 (fun v w' => v = .tuple #[.string (readF st L rm s c).1, .bool (readF st L rm s c).2] ∧ Sat w0 w' []) := by
  obtain ⟨Alv, clv, rfl⟩ := Rd.form hv
  refine c_enter (N := 45) (l := [_, _, _]) Try.func31 rfl rfl (fun a w hF hS => ?_)
  replace hS := hS.addRo hv
  refine c_seq ?_
  refine c_region ?_
  refine seq_wp (wn_none rfl) (wp_box (cs := #[_, _, _]) hF hS rfl rfl rfl rfl rfl ?_)
  clear hF hS; intro a w g94 hF hS
  refine seq_yl hF (wn_none rfl) rfl rfl (yl_assign hF rfl rfl) ?_
  clear hF; intro a hF
  refine seq_yl hF (wn_none rfl) rfl rfl (yl_assign hF rfl rfl) ?_
  clear hF; intro a hF
  refine wpList_nil ?_
  refine then_n ?_
  refine c_seq ?_
  refine c_seq ?_
  refine c_region ?_
  refine seq_yl hF (wn_none rfl) rfl rfl (yl_loadK (rs := [_, _, _]) (fun _ h => h ▸ hS) hF rfl rfl 0 rfl ag24 sz24 rfl rfl) ?_
  clear hF; intro a hF
  refine seq_wp (wn_none rfl) (wp_call (vs := [_]) hF rfl rfl rfl rfl cf49 (dValid2_any st _ L (rm) _ (hS.rdRo 1 rfl) (by first | omega | (simp; done)) (by first | omega | (simp; done))) ?_)
  clear hF; rintro _ w ⟨rfl, hS1⟩ a hF
  replace hS := hS.callB hS1 rfl; clear hS1
  refine seq_yl hF (wn_none rfl) rfl rfl (yl_un hF rfl rfl (fun _ => run_not)) ?_
  clear hF; intro a hF
  refine seq_yl hF (wn_none rfl) rfl rfl (yl_move hF rfl rfl) ?_
  clear hF; intro a hF
  refine fr_split hF (fun hc95 hF => ?_) (fun hc95 hF => ?_)
  · first | (replace hc95 := of_decide_eq_true hc95) | (replace hc95 := of_decide_eq_false (bnot_t hc95)) | (subst hc95) | (replace hc95 := bnot_t hc95; subst hc95) | (replace hc95 := bnot_t hc95) | skip
    try (have hc95x := hc95; simp only [okS, okI, okW, okP] at hc95x)
    refine seq_skip hF (wn_f hF rfl rfl rfl rfl) rfl rfl ?_
    clear hF; intro a hF
    refine seq_skip hF (wn_f hF rfl rfl rfl rfl) rfl rfl ?_
    clear hF; intro a hF
    refine seq_yl hF (wn_none rfl) rfl rfl (yl_pick (u := _) (v := undef) hF rfl rfl (fun _ => rfl) (fun h => by cases h)) ?_
    clear hF; intro a hF
    refine seq_yl hF (wn_none rfl) rfl rfl (yl_move hF rfl rfl) ?_
    clear hF; intro a hF
    refine seq_skip hF (wn_f hF rfl rfl rfl rfl) rfl rfl ?_
    clear hF; intro a hF
    refine seq_skip hF (wn_f hF rfl rfl rfl rfl) rfl rfl ?_
    clear hF; intro a hF
    refine seq_skip hF (wn_f hF rfl rfl rfl rfl) rfl rfl ?_
    clear hF; intro a hF
    refine seq_skip hF (wn_f hF rfl rfl rfl rfl) rfl rfl ?_
    clear hF; intro a hF
    refine seq_skip hF (wn_f hF rfl rfl rfl rfl) rfl rfl ?_
    clear hF; intro a hF
    refine seq_skip hF (wn_f hF rfl rfl rfl rfl) rfl rfl ?_
    clear hF; intro a hF
    refine seq_yl hF (wn_none rfl) rfl rfl (yl_pick (u := _) (v := undef) hF rfl rfl (fun _ => rfl) (fun h => by cases h)) ?_
    clear hF; intro a hF
    refine wpList_nil ?_
    refine then_n ?_
    refine c_cond_t hF rfl ?_
    refine c_seq ?_
    refine c_region ?_
    refine seq_yl hF (wn_none rfl) rfl rfl (yl_assign hF rfl rfl) ?_
    clear hF; intro a hF
    refine seq_yl hF (wn_none rfl) rfl rfl (yl_assign hF rfl rfl) ?_
    clear hF; intro a hF
    refine wpList_nil ?_
    refine then_n ?_
    refine wp_ret ?_
    refine then_r ?_
    refine ret_tt hF rfl rfl rfl ?_
    have hrd := (read_no (st := st) (L := L) (rm := rm) (s := s) (c := c) (fun h9 => by have h8 := h9.2; have h7 := okD_I h9.1; simp only [okW, okS, okI] at h8; first | exact absurd h9.1 (by assumption) | exact absurd h9.2 (by assumption) | omega))
    rw [hrd]; exact ⟨_, rfl, rfl, (hS.sub [] (by decide) (by first | rfl | simp) (by simp))⟩
  · first | (replace hc95 := of_decide_eq_false hc95) | (replace hc95 := of_decide_eq_true (bnot_f hc95)) | (subst hc95) | (replace hc95 := bnot_f hc95; subst hc95) | (replace hc95 := bnot_f hc95) | skip
    try (have hc95x := hc95; simp only [okS, okI, okW, okP] at hc95x)
    refine seq_yl hF (wn_t hF rfl rfl rfl rfl) rfl rfl (yl_move hF rfl rfl) ?_
    clear hF; intro a hF
    refine seq_yl hF (wn_t hF rfl rfl rfl rfl) rfl rfl (yl_bin hF rfl rfl rfl rfl (fun _ => run_lss)) ?_
    clear hF; intro a hF
    refine seq_yl hF (wn_none rfl) rfl rfl (yl_pick (u := _) (v := undef) hF rfl rfl (fun h => by cases h) (fun _ => rfl)) ?_
    clear hF; intro a hF
    refine seq_yl hF (wn_none rfl) rfl rfl (yl_move hF rfl rfl) ?_
    clear hF; intro a hF
    refine fr_split hF (fun hc96 hF => ?_) (fun hc96 hF => ?_)
    · first | (replace hc96 := of_decide_eq_true hc96) | (replace hc96 := of_decide_eq_false (bnot_t hc96)) | (subst hc96) | (replace hc96 := bnot_t hc96; subst hc96) | (replace hc96 := bnot_t hc96) | skip
      try (have hc96x := hc96; simp only [okS, okI, okW, okP] at hc96x)
      refine seq_skip hF (wn_f hF rfl rfl rfl rfl) rfl rfl ?_
      clear hF; intro a hF
      refine seq_skip hF (wn_f hF rfl rfl rfl rfl) rfl rfl ?_
      clear hF; intro a hF
      refine seq_skip hF (wn_f hF rfl rfl rfl rfl) rfl rfl ?_
      clear hF; intro a hF
      refine seq_skip hF (wn_f hF rfl rfl rfl rfl) rfl rfl ?_
      clear hF; intro a hF
      refine seq_skip hF (wn_f hF rfl rfl rfl rfl) rfl rfl ?_
      clear hF; intro a hF
      refine seq_skip hF (wn_f hF rfl rfl rfl rfl) rfl rfl ?_
      clear hF; intro a hF
      refine seq_yl hF (wn_none rfl) rfl rfl (yl_pick (u := _) (v := undef) hF rfl rfl (fun _ => rfl) (fun h => by cases h)) ?_
      clear hF; intro a hF
      refine wpList_nil ?_
      refine then_n ?_
      refine c_cond_t hF rfl ?_
      refine c_seq ?_
      refine c_region ?_
      refine seq_yl hF (wn_none rfl) rfl rfl (yl_assign hF rfl rfl) ?_
      clear hF; intro a hF
      refine seq_yl hF (wn_none rfl) rfl rfl (yl_assign hF rfl rfl) ?_
      clear hF; intro a hF
      refine wpList_nil ?_
      refine then_n ?_
      refine wp_ret ?_
      refine then_r ?_
      refine ret_tt hF rfl rfl rfl ?_
      have hrd := (read_no (st := st) (L := L) (rm := rm) (s := s) (c := c) (fun h9 => by have h8 := h9.2; have h7 := okD_I h9.1; simp only [okW, okS, okI] at h8; first | exact absurd h9.1 (by assumption) | exact absurd h9.2 (by assumption) | omega))
      rw [hrd]; exact ⟨_, rfl, rfl, (hS.sub [] (by decide) (by first | rfl | simp) (by simp))⟩
    · first | (replace hc96 := of_decide_eq_false hc96) | (replace hc96 := of_decide_eq_true (bnot_f hc96)) | (subst hc96) | (replace hc96 := bnot_f hc96; subst hc96) | (replace hc96 := bnot_f hc96) | skip
      try (have hc96x := hc96; simp only [okS, okI, okW, okP] at hc96x)
      refine seq_yl hF (wn_t hF rfl rfl rfl rfl) rfl rfl (yl_move hF rfl rfl) ?_
      clear hF; intro a hF
      refine seq_yl hF (wn_t hF rfl rfl rfl rfl) rfl rfl (yl_move hF rfl rfl) ?_
      clear hF; intro a hF
      refine seq_yl hF (wn_t hF rfl rfl rfl rfl) rfl rfl (yl_loadK (rs := [_, _, _]) (fun _ h => h ▸ hS) hF rfl rfl 0 rfl ag24 sz24 rfl rfl) ?_
      clear hF; intro a hF
      refine seq_wp (wn_t hF rfl rfl rfl rfl) (wp_call (vs := [_]) hF rfl rfl rfl rfl cf27 (secs_any st _ _ _ (by omega)) ?_)
      clear hF; rintro _ w ⟨rfl, hS1⟩ a hF
      replace hS := hS.callB hS1 rfl; clear hS1
      refine seq_wp (wn_t hF rfl rfl rfl rfl) (wp_call (vs := [_, _, _]) hF rfl rfl rfl rfl cf48 (in_any (s) (c) ((((st).size : Int) / 8)) _ (by omega)) ?_)
      clear hF; rintro _ w ⟨rfl, hS1⟩ a hF
      replace hS := hS.callB hS1 rfl; clear hS1
      refine seq_yl hF (wn_t hF rfl rfl rfl rfl) rfl rfl (yl_un hF rfl rfl (fun _ => run_not)) ?_
      clear hF; intro a hF
      refine seq_yl hF (wn_none rfl) rfl rfl (yl_pick (u := _) (v := undef) hF rfl rfl (fun h => by cases h) (fun _ => rfl)) ?_
      clear hF; intro a hF
      refine wpList_nil ?_
      refine then_n ?_
      refine c_cond hF rfl (fun hc97 => ?_) (fun hc97 => ?_)
      · first | (replace hc97 := of_decide_eq_true hc97) | (replace hc97 := of_decide_eq_false (bnot_t hc97)) | (subst hc97) | (replace hc97 := bnot_t hc97; subst hc97) | (replace hc97 := bnot_t hc97) | skip
        try (have hc97x := hc97; simp only [okS, okI, okW, okP] at hc97x)
        refine c_seq ?_
        refine c_region ?_
        refine seq_yl hF (wn_none rfl) rfl rfl (yl_assign hF rfl rfl) ?_
        clear hF; intro a hF
        refine seq_yl hF (wn_none rfl) rfl rfl (yl_assign hF rfl rfl) ?_
        clear hF; intro a hF
        refine wpList_nil ?_
        refine then_n ?_
        refine wp_ret ?_
        refine then_r ?_
        refine ret_tt hF rfl rfl rfl ?_
        have hrd := (read_no (st := st) (L := L) (rm := rm) (s := s) (c := c) (fun h9 => by have h8 := h9.2; have h7 := okD_I h9.1; simp only [okW, okS, okI] at h8; first | exact absurd h9.1 (by assumption) | exact absurd h9.2 (by assumption) | omega))
        rw [hrd]; exact ⟨_, rfl, rfl, (hS.sub [] (by decide) (by first | rfl | simp) (by simp))⟩
      · first | (replace hc97 := of_decide_eq_false hc97) | (replace hc97 := of_decide_eq_true (bnot_f hc97)) | (subst hc97) | (replace hc97 := bnot_f hc97; subst hc97) | (replace hc97 := bnot_f hc97) | skip
        try (have hc97x := hc97; simp only [okS, okI, okW, okP] at hc97x)
        refine wp_skip ?_
        refine then_n ?_
        refine c_seq ?_
        refine c_region ?_
        refine seq_yl hF (wn_none rfl) rfl rfl (yl_assign hF rfl rfl) ?_
        clear hF; intro a hF
        refine wpList_nil ?_
        refine then_n ?_
        refine c_seq ?_
        refine c_seq ?_
        refine c_region ?_
        refine seq_yl hF (wn_none rfl) rfl rfl (yl_assign hF rfl rfl) ?_
        clear hF; intro a hF
        refine wpList_nil ?_
        refine then_n ?_
        refine wp_block ?_
        have hd9 : okD st L rm := by assumption
        have hs9 : okS (st.size : Int) s c := by first | assumption | (have h8 := okD_I hd9; unfold okS okI; omega)
        have hs9x := hs9
        simp only [okS, okI] at hs9x
        refine c_loop (fun m a w => ∃ (k : Nat), m = (c - (k : Int)).toNat ∧ ((k : Int) ≤ c) ∧ Fr 45 a [(1, .int .i64 (s)), (2, .int .i64 (c)), (3, .pointer (some ⟨g94, 0, none⟩)), (8, .string (catF (newest st L) s k)), (9, .int .i64 ((k : Nat) : Int))] ∧ Sat w0 w (.box g94 24 #[.string st, .slice Alv (L).length clv, .int .i64 (rm)] :: .ro 2 (.slice Alv (L).length clv) (L).length (cells enc59 (L)) :: [])) ((c - ((0 : Nat) : Int)).toNat) ?_ ?_
        · exact ⟨0, rfl, (by unfold okS at hs9; omega), hF.to [1, 2, 3, 8, 9] rfl, (hS.sub [0, 1] (by decide) (by first | rfl | simp) (by simp))⟩
        · clear hF hS; try clear hSS
          clear a w; rintro m a w ⟨k, rfl, hinv, hF, hS⟩
          have hk : (k : Int) ≤ c := hinv
          have hacc := read_size hd9.2.2.2 hs9 (k := k) hk
          refine c_seq ?_
          refine c_seq ?_
          refine c_region ?_
          refine seq_yl hF (wn_none rfl) rfl rfl (yl_move hF rfl rfl) ?_
          clear hF; intro a hF
          refine seq_yl hF (wn_none rfl) rfl rfl (yl_move hF rfl rfl) ?_
          clear hF; intro a hF
          refine seq_yl hF (wn_none rfl) rfl rfl (yl_bin hF rfl rfl rfl rfl (fun _ => run_lss)) ?_
          clear hF; intro a hF
          refine wpList_nil ?_
          refine then_n ?_
          refine c_cond hF rfl (fun hc98 => ?_) (fun hc98 => ?_)
          · first | (replace hc98 := of_decide_eq_true hc98) | (replace hc98 := of_decide_eq_false (bnot_t hc98)) | (subst hc98) | (replace hc98 := bnot_t hc98; subst hc98) | (replace hc98 := bnot_t hc98) | skip
            try (have hc98x := hc98; simp only [okS, okI, okW, okP] at hc98x)
            refine wp_skip ?_
            refine then_n ?_
            refine c_seq ?_
            refine wp_block ?_
            refine c_seq ?_
            refine c_region ?_
            refine seq_yl hF (wn_none rfl) rfl rfl (yl_loadK (rs := [_, _, _]) (fun _ h => h ▸ hS) hF rfl rfl 0 rfl ag24 sz24 rfl rfl) ?_
            clear hF; intro a hF
            refine seq_yl hF (wn_none rfl) rfl rfl (yl_move hF rfl rfl) ?_
            clear hF; intro a hF
            refine seq_yl hF (wn_none rfl) rfl rfl (yl_move hF rfl rfl) ?_
            clear hF; intro a hF
            refine seq_yl hF (wn_none rfl) rfl rfl (yl_bin hF rfl rfl rfl rfl (fun _ => run_add (by refine ⟨?_, ?_⟩ <;> omega))) ?_
            clear hF; intro a hF
            refine seq_wp (wn_none rfl) (wp_call (vs := [_, _]) hF rfl rfl rfl rfl cf30 (vers2_any st _ L (rm) (((s) + ((k : Nat) : Int))) _ (hS.rdRo 1 rfl) (by first | omega | (simp; done)) (by first | omega | (simp; done))) ?_)
            clear hF; rintro _ w ⟨v99, M100, rfl, hM101, hS1⟩ a hF
            replace hS := hS.callB hS1 rfl; clear hS1
            obtain ⟨Av99, cv99, rfl⟩ := hS.form 0 rfl
            have hM101l := vers_len st L (rm) (((s) + ((k : Nat) : Int))); rw [← hM101] at hM101l
            have hM1012 : M100 = versC st L (((s) + ((k : Nat) : Int))) := hM101.trans (if_pos ⟨hd9, okS_in hs9 (i := (k : Int)) (by omega) (by omega)⟩)
            have hM101n := versC_len st L (((s) + ((k : Nat) : Int))); rw [← hM1012] at hM101n
            refine seq_yl hF (wn_none rfl) rfl rfl (yl_assign hF rfl rfl) ?_
            clear hF; intro a hF
            refine wpList_nil ?_
            refine then_n ?_
            refine c_region ?_
            refine seq_yl hF (wn_none rfl) rfl rfl (yl_move hF rfl rfl) ?_
            clear hF; intro a hF
            refine seq_yl hF (wn_none rfl) rfl rfl (yl_move hF rfl rfl) ?_
            clear hF; intro a hF
            refine seq_yl hF (wn_none rfl) rfl rfl (yl_move hF rfl rfl) ?_
            clear hF; intro a hF
            refine seq_yl hF (wn_none rfl) rfl rfl (yl_len hF rfl rfl (fun _ => run_lenRd sl52 (hS.rdRow 0 rfl))) ?_
            clear hF; intro a hF
            refine seq_yl hF (wn_none rfl) rfl rfl (yl_bin hF rfl rfl rfl rfl (fun _ => run_dec (c := 1) (by omega) (by omega))) ?_
            clear hF; intro a hF
            have hlt_hx102 : ((M100).length - 1) < (M100).length := by first | omega | (simp; done) | (simp; omega)
            obtain ⟨ad103, rfl⟩ := rd_some (hS.rdRow 0 rfl) hlt_hx102
            obtain ⟨x102, hx102⟩ := get_some hlt_hx102
            refine seq_yl hF (wn_none rfl) rfl rfl (yl_indexAddr hF rfl rfl rfl (fun _ => run_idx' sl52 sz9 (hS.rdRow 0 rfl) hlt_hx102)) ?_
            clear hF; intro a hF
            refine seq_yl hF (wn_none rfl) rfl rfl (yl_loadAt hF rfl rfl ag9 (fun _ h => rd_cell0 (enc := encS) (by subst h; exact hS.rdRow 0 rfl) encS_len hx102 rfl rfl)) ?_
            clear hF; intro a hF
            have hxn := newest_at (k := M100.length - 1) (by rw [← hM1012]; exact hx102) (by rw [← hM1012])
            have hxs := newest_size hd9.2.2.2 (okS_in hs9 (i := (k : Int)) (by omega) (by omega)); rw [← hxn] at hxs
            have hz104 := cat_size (catF (newest st L) s k) x102
            refine seq_yl hF (wn_none rfl) rfl rfl (yl_bin hF rfl rfl rfl rfl (fun _ => run_catS (x := (catF (newest st L) s k)) (y := x102) (by omega))) ?_
            clear hF; intro a hF
            refine seq_yl hF (wn_none rfl) rfl rfl (yl_assign hF rfl rfl) ?_
            clear hF; intro a hF
            refine wpList_nil ?_
            refine inb_n ?_
            refine then_n ?_
            refine c_region ?_
            refine seq_yl hF (wn_none rfl) rfl rfl (yl_move hF rfl rfl) ?_
            clear hF; intro a hF
            refine seq_yl hF (wn_none rfl) rfl rfl (yl_bin hF rfl rfl rfl rfl (fun _ => run_inc (by omega))) ?_
            clear hF; intro a hF
            refine seq_yl hF (wn_none rfl) rfl rfl (yl_assign hF rfl rfl) ?_
            clear hF; intro a hF
            refine wpList_nil ?_
            refine then_n ?_
            rw [hxn] at hF
            exact ⟨_, (by omega), k + 1, rfl, (show _ ≤ _ by omega), hF.to [1, 2, 3, 8, 9] rfl, (hS.sub [1, 2] (by decide) (by first | rfl | simp) (by simp))⟩
          · first | (replace hc98 := of_decide_eq_false hc98) | (replace hc98 := of_decide_eq_true (bnot_f hc98)) | (subst hc98) | (replace hc98 := bnot_f hc98; subst hc98) | (replace hc98 := bnot_f hc98) | skip
            try (have hc98x := hc98; simp only [okS, okI, okW, okP] at hc98x)
            refine wp_exit ?_
            refine then_x ?_
            refine then_x ?_
            refine inb_x ?_
            refine then_n ?_
            refine c_seq ?_
            refine c_region ?_
            refine seq_yl hF (wn_none rfl) rfl rfl (yl_move hF rfl rfl) ?_
            clear hF; intro a hF
            refine seq_yl hF (wn_none rfl) rfl rfl (yl_assign hF rfl rfl) ?_
            clear hF; intro a hF
            refine seq_yl hF (wn_none rfl) rfl rfl (yl_assign hF rfl rfl) ?_
            clear hF; intro a hF
            refine wpList_nil ?_
            refine then_n ?_
            refine wp_ret ?_
            refine ret_tt hF rfl rfl rfl ?_
            have hrd := (read_yes (k := k) hd9 hs9 (by omega))
            rw [hrd]; exact ⟨_, rfl, rfl, (hS.sub [] (by decide) (by first | rfl | simp) (by simp))⟩

end Go.Proofs.Ytlhcpeolkkadbaa

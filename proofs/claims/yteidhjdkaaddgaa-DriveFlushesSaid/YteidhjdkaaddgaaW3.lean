/- walks, printed by wip/gen -/
import Derived.Test.YteidhjdkaaddgaaW2
namespace Go.Proofs.Yteidhjdkaaddgaa
open Go.RowKit
set_option linter.unusedVariables false
set_option linter.unusedSimpArgs false

set_option maxRecDepth 100000 in
theorem read2_any (st : ByteArray) (lv : Value) (L : List E39) (rm : Int) (s c : Int) (w0 : World) (hv : Rd w0 2 lv (L).length (cells enc39 (L))) (hz : (st.size : Int) ≤ 9223372036854775807) (hL : L.length ≤ 1000000) :
    Fn Try.prog 23 #[.agg #[.string st, lv, .int .i64 rm], .int .i64 s, .int .i64 c] w0 (fun v w' => v = .tuple #[.string (readF st L rm s c).1, .bool (readF st L rm s c).2] ∧ Sat w0 w' []) := by
  obtain ⟨Alv, clv, rfl⟩ := Rd.form hv
  refine c_enter (N := 45) (l := [_, _, _]) Try.func23 rfl rfl (fun a w hF hS => ?_)
  replace hS := hS.addRo hv
  refine c_seq ?_
  refine c_region ?_
  refine seq_wp (wn_none rfl) (wp_box (cs := #[_, _, _]) hF hS rfl rfl rfl rfl rfl ?_)
  clear hF hS; intro a w g104 hF hS
  refine seq_yl hF (wn_none rfl) rfl rfl (yl_assign hF rfl rfl) ?_
  clear hF; intro a hF
  refine seq_yl hF (wn_none rfl) rfl rfl (yl_assign hF rfl rfl) ?_
  clear hF; intro a hF
  refine wpList_nil ?_
  refine then_n ?_
  refine c_seq ?_
  refine c_seq ?_
  refine c_region ?_
  refine seq_yl hF (wn_none rfl) rfl rfl (yl_loadK (rs := [_, _, _]) (fun _ h => h ▸ hS) hF rfl rfl 0 rfl ag25 sz25 rfl rfl) ?_
  clear hF; intro a hF
  refine seq_wp (wn_none rfl) (wp_call (vs := [_]) hF rfl rfl rfl rfl cf27 (dValid2_any st _ L (rm) _ (hS.rdRo 1 rfl) (by first | omega | (simp; done)) (by first | omega | (simp; done))) ?_)
  clear hF; rintro _ w ⟨rfl, hS1⟩ a hF
  replace hS := hS.callB hS1 rfl; clear hS1
  refine seq_yl hF (wn_none rfl) rfl rfl (yl_un hF rfl rfl (fun _ => run_not)) ?_
  clear hF; intro a hF
  refine seq_yl hF (wn_none rfl) rfl rfl (yl_move hF rfl rfl) ?_
  clear hF; intro a hF
  refine fr_split hF (fun hc105 hF => ?_) (fun hc105 hF => ?_)
  · first | (replace hc105 := of_decide_eq_true hc105) | (replace hc105 := of_decide_eq_false (bnot_t hc105)) | (subst hc105) | (replace hc105 := bnot_t hc105; subst hc105) | (replace hc105 := bnot_t hc105) | skip
    try (have hc105x := hc105; simp only [okS, okI, okW, okP] at hc105x)
    refine seq_skip hF (wn_f hF rfl rfl rfl rfl) rfl rfl ?_
    clear hF; intro a hF
    refine seq_skip hF (wn_f hF rfl rfl rfl rfl) rfl rfl ?_
    clear hF; intro a hF
    refine seq_yl hF (wn_none rfl) rfl rfl (yl_pick (u := _) (v := undef) hF rfl rfl (fun _ => rfl) (fun h => by cases h)) ?_
    clear hF; intro a hF
    refine seq_yl hF (wn_none rfl) rfl rfl (yl_move hF rfl rfl) ?_
    clear hF; intro a hF
    refine seq_skip hF (wn_f hF rfl rfl rfl rfl) rfl rfl ?_
    clear hF; intro a hF
    refine seq_skip hF (wn_f hF rfl rfl rfl rfl) rfl rfl ?_
    clear hF; intro a hF
    refine seq_skip hF (wn_f hF rfl rfl rfl rfl) rfl rfl ?_
    clear hF; intro a hF
    refine seq_skip hF (wn_f hF rfl rfl rfl rfl) rfl rfl ?_
    clear hF; intro a hF
    refine seq_skip hF (wn_f hF rfl rfl rfl rfl) rfl rfl ?_
    clear hF; intro a hF
    refine seq_skip hF (wn_f hF rfl rfl rfl rfl) rfl rfl ?_
    clear hF; intro a hF
    refine seq_yl hF (wn_none rfl) rfl rfl (yl_pick (u := _) (v := undef) hF rfl rfl (fun _ => rfl) (fun h => by cases h)) ?_
    clear hF; intro a hF
    refine wpList_nil ?_
    refine then_n ?_
    refine c_cond_t hF rfl ?_
    refine c_seq ?_
    refine c_region ?_
    refine seq_yl hF (wn_none rfl) rfl rfl (yl_assign hF rfl rfl) ?_
    clear hF; intro a hF
    refine seq_yl hF (wn_none rfl) rfl rfl (yl_assign hF rfl rfl) ?_
    clear hF; intro a hF
    refine wpList_nil ?_
    refine then_n ?_
    refine wp_ret ?_
    refine then_r ?_
    refine ret_tt hF rfl rfl rfl ?_
    have hrd := (read_no (st := st) (L := L) (rm := rm) (s := s) (c := c) (fun h9 => by have h8 := h9.2; have h7 := okD_I h9.1; simp only [okW, okS, okI] at h8; first | exact absurd h9.1 (by assumption) | exact absurd h9.2 (by assumption) | omega))
    rw [hrd]; exact ⟨_, rfl, rfl, (hS.sub [] (by decide) (by first | rfl | simp) (by simp))⟩
  · first | (replace hc105 := of_decide_eq_false hc105) | (replace hc105 := of_decide_eq_true (bnot_f hc105)) | (subst hc105) | (replace hc105 := bnot_f hc105; subst hc105) | (replace hc105 := bnot_f hc105) | skip
    try (have hc105x := hc105; simp only [okS, okI, okW, okP] at hc105x)
    refine seq_yl hF (wn_t hF rfl rfl rfl rfl) rfl rfl (yl_move hF rfl rfl) ?_
    clear hF; intro a hF
    refine seq_yl hF (wn_t hF rfl rfl rfl rfl) rfl rfl (yl_bin hF rfl rfl rfl rfl (fun _ => run_lss)) ?_
    clear hF; intro a hF
    refine seq_yl hF (wn_none rfl) rfl rfl (yl_pick (u := _) (v := undef) hF rfl rfl (fun h => by cases h) (fun _ => rfl)) ?_
    clear hF; intro a hF
    refine seq_yl hF (wn_none rfl) rfl rfl (yl_move hF rfl rfl) ?_
    clear hF; intro a hF
    refine fr_split hF (fun hc106 hF => ?_) (fun hc106 hF => ?_)
    · first | (replace hc106 := of_decide_eq_true hc106) | (replace hc106 := of_decide_eq_false (bnot_t hc106)) | (subst hc106) | (replace hc106 := bnot_t hc106; subst hc106) | (replace hc106 := bnot_t hc106) | skip
      try (have hc106x := hc106; simp only [okS, okI, okW, okP] at hc106x)
      refine seq_skip hF (wn_f hF rfl rfl rfl rfl) rfl rfl ?_
      clear hF; intro a hF
      refine seq_skip hF (wn_f hF rfl rfl rfl rfl) rfl rfl ?_
      clear hF; intro a hF
      refine seq_skip hF (wn_f hF rfl rfl rfl rfl) rfl rfl ?_
      clear hF; intro a hF
      refine seq_skip hF (wn_f hF rfl rfl rfl rfl) rfl rfl ?_
      clear hF; intro a hF
      refine seq_skip hF (wn_f hF rfl rfl rfl rfl) rfl rfl ?_
      clear hF; intro a hF
      refine seq_skip hF (wn_f hF rfl rfl rfl rfl) rfl rfl ?_
      clear hF; intro a hF
      refine seq_yl hF (wn_none rfl) rfl rfl (yl_pick (u := _) (v := undef) hF rfl rfl (fun _ => rfl) (fun h => by cases h)) ?_
      clear hF; intro a hF
      refine wpList_nil ?_
      refine then_n ?_
      refine c_cond_t hF rfl ?_
      refine c_seq ?_
      refine c_region ?_
      refine seq_yl hF (wn_none rfl) rfl rfl (yl_assign hF rfl rfl) ?_
      clear hF; intro a hF
      refine seq_yl hF (wn_none rfl) rfl rfl (yl_assign hF rfl rfl) ?_
      clear hF; intro a hF
      refine wpList_nil ?_
      refine then_n ?_
      refine wp_ret ?_
      refine then_r ?_
      refine ret_tt hF rfl rfl rfl ?_
      have hrd := (read_no (st := st) (L := L) (rm := rm) (s := s) (c := c) (fun h9 => by have h8 := h9.2; have h7 := okD_I h9.1; simp only [okW, okS, okI] at h8; first | exact absurd h9.1 (by assumption) | exact absurd h9.2 (by assumption) | omega))
      rw [hrd]; exact ⟨_, rfl, rfl, (hS.sub [] (by decide) (by first | rfl | simp) (by simp))⟩
    · first | (replace hc106 := of_decide_eq_false hc106) | (replace hc106 := of_decide_eq_true (bnot_f hc106)) | (subst hc106) | (replace hc106 := bnot_f hc106; subst hc106) | (replace hc106 := bnot_f hc106) | skip
      try (have hc106x := hc106; simp only [okS, okI, okW, okP] at hc106x)
      refine seq_yl hF (wn_t hF rfl rfl rfl rfl) rfl rfl (yl_move hF rfl rfl) ?_
      clear hF; intro a hF
      refine seq_yl hF (wn_t hF rfl rfl rfl rfl) rfl rfl (yl_move hF rfl rfl) ?_
      clear hF; intro a hF
      refine seq_yl hF (wn_t hF rfl rfl rfl rfl) rfl rfl (yl_loadK (rs := [_, _, _]) (fun _ h => h ▸ hS) hF rfl rfl 0 rfl ag25 sz25 rfl rfl) ?_
      clear hF; intro a hF
      refine seq_wp (wn_t hF rfl rfl rfl rfl) (wp_call (vs := [_]) hF rfl rfl rfl rfl cf13 (secs_any st _ _ _ (by omega)) ?_)
      clear hF; rintro _ w ⟨rfl, hS1⟩ a hF
      replace hS := hS.callB hS1 rfl; clear hS1
      refine seq_wp (wn_t hF rfl rfl rfl rfl) (wp_call (vs := [_, _, _]) hF rfl rfl rfl rfl cf42 (in_any (s) (c) ((((st).size : Int) / 8)) _ (by omega)) ?_)
      clear hF; rintro _ w ⟨rfl, hS1⟩ a hF
      replace hS := hS.callB hS1 rfl; clear hS1
      refine seq_yl hF (wn_t hF rfl rfl rfl rfl) rfl rfl (yl_un hF rfl rfl (fun _ => run_not)) ?_
      clear hF; intro a hF
      refine seq_yl hF (wn_none rfl) rfl rfl (yl_pick (u := _) (v := undef) hF rfl rfl (fun h => by cases h) (fun _ => rfl)) ?_
      clear hF; intro a hF
      refine wpList_nil ?_
      refine then_n ?_
      refine c_cond hF rfl (fun hc107 => ?_) (fun hc107 => ?_)
      · first | (replace hc107 := of_decide_eq_true hc107) | (replace hc107 := of_decide_eq_false (bnot_t hc107)) | (subst hc107) | (replace hc107 := bnot_t hc107; subst hc107) | (replace hc107 := bnot_t hc107) | skip
        try (have hc107x := hc107; simp only [okS, okI, okW, okP] at hc107x)
        refine c_seq ?_
        refine c_region ?_
        refine seq_yl hF (wn_none rfl) rfl rfl (yl_assign hF rfl rfl) ?_
        clear hF; intro a hF
        refine seq_yl hF (wn_none rfl) rfl rfl (yl_assign hF rfl rfl) ?_
        clear hF; intro a hF
        refine wpList_nil ?_
        refine then_n ?_
        refine wp_ret ?_
        refine then_r ?_
        refine ret_tt hF rfl rfl rfl ?_
        have hrd := (read_no (st := st) (L := L) (rm := rm) (s := s) (c := c) (fun h9 => by have h8 := h9.2; have h7 := okD_I h9.1; simp only [okW, okS, okI] at h8; first | exact absurd h9.1 (by assumption) | exact absurd h9.2 (by assumption) | omega))
        rw [hrd]; exact ⟨_, rfl, rfl, (hS.sub [] (by decide) (by first | rfl | simp) (by simp))⟩
      · first | (replace hc107 := of_decide_eq_false hc107) | (replace hc107 := of_decide_eq_true (bnot_f hc107)) | (subst hc107) | (replace hc107 := bnot_f hc107; subst hc107) | (replace hc107 := bnot_f hc107) | skip
        try (have hc107x := hc107; simp only [okS, okI, okW, okP] at hc107x)
        refine wp_skip ?_
        refine then_n ?_
        refine c_seq ?_
        refine c_region ?_
        refine seq_yl hF (wn_none rfl) rfl rfl (yl_assign hF rfl rfl) ?_
        clear hF; intro a hF
        refine wpList_nil ?_
        refine then_n ?_
        refine c_seq ?_
        refine c_seq ?_
        refine c_region ?_
        refine seq_yl hF (wn_none rfl) rfl rfl (yl_assign hF rfl rfl) ?_
        clear hF; intro a hF
        refine wpList_nil ?_
        refine then_n ?_
        refine wp_block ?_
        have hd9 : okD st L rm := by assumption
        have hs9 : okS (st.size : Int) s c := by first | assumption | (have h8 := okD_I hd9; unfold okS okI; omega)
        have hs9x := hs9
        simp only [okS, okI] at hs9x
        refine c_loop (fun m a w => ∃ (k : Nat), m = (c - (k : Int)).toNat ∧ ((k : Int) ≤ c) ∧ Fr 45 a [(1, .int .i64 (s)), (2, .int .i64 (c)), (3, .pointer (some ⟨g104, 0, none⟩)), (8, .string (catF (newest st L) s k)), (9, .int .i64 ((k : Nat) : Int))] ∧ Sat w0 w (.box g104 25 #[.string st, .slice Alv (L).length clv, .int .i64 (rm)] :: .ro 2 (.slice Alv (L).length clv) (L).length (cells enc39 (L)) :: [])) ((c - ((0 : Nat) : Int)).toNat) ?_ ?_
        · exact ⟨0, rfl, (by unfold okS at hs9; omega), hF.to [1, 2, 3, 8, 9] rfl, (hS.sub [0, 1] (by decide) (by first | rfl | simp) (by simp))⟩
        · clear hF hS; try clear hSS
          clear a w; rintro m a w ⟨k, rfl, hinv, hF, hS⟩
          have hk : (k : Int) ≤ c := hinv
          have hacc := read_size hd9.2.2.2 hs9 (k := k) hk
          refine c_seq ?_
          refine c_seq ?_
          refine c_region ?_
          refine seq_yl hF (wn_none rfl) rfl rfl (yl_move hF rfl rfl) ?_
          clear hF; intro a hF
          refine seq_yl hF (wn_none rfl) rfl rfl (yl_move hF rfl rfl) ?_
          clear hF; intro a hF
          refine seq_yl hF (wn_none rfl) rfl rfl (yl_bin hF rfl rfl rfl rfl (fun _ => run_lss)) ?_
          clear hF; intro a hF
          refine wpList_nil ?_
          refine then_n ?_
          refine c_cond hF rfl (fun hc108 => ?_) (fun hc108 => ?_)
          · first | (replace hc108 := of_decide_eq_true hc108) | (replace hc108 := of_decide_eq_false (bnot_t hc108)) | (subst hc108) | (replace hc108 := bnot_t hc108; subst hc108) | (replace hc108 := bnot_t hc108) | skip
            try (have hc108x := hc108; simp only [okS, okI, okW, okP] at hc108x)
            refine wp_skip ?_
            refine then_n ?_
            refine c_seq ?_
            refine wp_block ?_
            refine c_seq ?_
            refine c_region ?_
            refine seq_yl hF (wn_none rfl) rfl rfl (yl_loadK (rs := [_, _, _]) (fun _ h => h ▸ hS) hF rfl rfl 0 rfl ag25 sz25 rfl rfl) ?_
            clear hF; intro a hF
            refine seq_yl hF (wn_none rfl) rfl rfl (yl_move hF rfl rfl) ?_
            clear hF; intro a hF
            refine seq_yl hF (wn_none rfl) rfl rfl (yl_move hF rfl rfl) ?_
            clear hF; intro a hF
            refine seq_yl hF (wn_none rfl) rfl rfl (yl_bin hF rfl rfl rfl rfl (fun _ => run_add (by refine ⟨?_, ?_⟩ <;> omega))) ?_
            clear hF; intro a hF
            refine seq_wp (wn_none rfl) (wp_call (vs := [_, _]) hF rfl rfl rfl rfl cf30 (vers2_any st _ L (rm) (((s) + ((k : Nat) : Int))) _ (hS.rdRo 1 rfl) (by first | omega | (simp; done)) (by first | omega | (simp; done))) ?_)
            clear hF; rintro _ w ⟨v109, M110, rfl, hM111, hS1⟩ a hF
            replace hS := hS.callB hS1 rfl; clear hS1
            obtain ⟨Av109, cv109, rfl⟩ := hS.form 0 rfl
            have hM111l := vers_len st L (rm) (((s) + ((k : Nat) : Int))); rw [← hM111] at hM111l
            have hM1112 : M110 = versC st L (((s) + ((k : Nat) : Int))) := hM111.trans (if_pos ⟨hd9, okS_in hs9 (i := (k : Int)) (by omega) (by omega)⟩)
            have hM111n := versC_len st L (((s) + ((k : Nat) : Int))); rw [← hM1112] at hM111n
            refine seq_yl hF (wn_none rfl) rfl rfl (yl_assign hF rfl rfl) ?_
            clear hF; intro a hF
            refine wpList_nil ?_
            refine then_n ?_
            refine c_region ?_
            refine seq_yl hF (wn_none rfl) rfl rfl (yl_move hF rfl rfl) ?_
            clear hF; intro a hF
            refine seq_yl hF (wn_none rfl) rfl rfl (yl_move hF rfl rfl) ?_
            clear hF; intro a hF
            refine seq_yl hF (wn_none rfl) rfl rfl (yl_move hF rfl rfl) ?_
            clear hF; intro a hF
            refine seq_yl hF (wn_none rfl) rfl rfl (yl_len hF rfl rfl (fun _ => run_lenRd sl32 (hS.rdRow 0 rfl))) ?_
            clear hF; intro a hF
            refine seq_yl hF (wn_none rfl) rfl rfl (yl_bin hF rfl rfl rfl rfl (fun _ => run_dec (c := 1) (by omega) (by omega))) ?_
            clear hF; intro a hF
            have hlt_hx112 : ((M110).length - 1) < (M110).length := by first | omega | (simp; done) | (simp; omega)
            obtain ⟨ad113, rfl⟩ := rd_some (hS.rdRow 0 rfl) hlt_hx112
            obtain ⟨x112, hx112⟩ := get_some hlt_hx112
            refine seq_yl hF (wn_none rfl) rfl rfl (yl_indexAddr hF rfl rfl rfl (fun _ => run_idx' sl32 sz9 (hS.rdRow 0 rfl) hlt_hx112)) ?_
            clear hF; intro a hF
            refine seq_yl hF (wn_none rfl) rfl rfl (yl_loadAt hF rfl rfl ag9 (fun _ h => rd_cell0 (enc := encS) (by subst h; exact hS.rdRow 0 rfl) encS_len hx112 rfl rfl)) ?_
            clear hF; intro a hF
            have hxn := newest_at (k := M110.length - 1) (by rw [← hM1112]; exact hx112) (by rw [← hM1112])
            have hxs := newest_size hd9.2.2.2 (okS_in hs9 (i := (k : Int)) (by omega) (by omega)); rw [← hxn] at hxs
            have hz114 := cat_size (catF (newest st L) s k) x112
            refine seq_yl hF (wn_none rfl) rfl rfl (yl_bin hF rfl rfl rfl rfl (fun _ => run_catS (x := (catF (newest st L) s k)) (y := x112) (by omega))) ?_
            clear hF; intro a hF
            refine seq_yl hF (wn_none rfl) rfl rfl (yl_assign hF rfl rfl) ?_
            clear hF; intro a hF
            refine wpList_nil ?_
            refine inb_n ?_
            refine then_n ?_
            refine c_region ?_
            refine seq_yl hF (wn_none rfl) rfl rfl (yl_move hF rfl rfl) ?_
            clear hF; intro a hF
            refine seq_yl hF (wn_none rfl) rfl rfl (yl_bin hF rfl rfl rfl rfl (fun _ => run_inc (by omega))) ?_
            clear hF; intro a hF
            refine seq_yl hF (wn_none rfl) rfl rfl (yl_assign hF rfl rfl) ?_
            clear hF; intro a hF
            refine wpList_nil ?_
            refine then_n ?_
            rw [hxn] at hF
            exact ⟨_, (by omega), k + 1, rfl, (show _ ≤ _ by omega), hF.to [1, 2, 3, 8, 9] rfl, (hS.sub [1, 2] (by decide) (by first | rfl | simp) (by simp))⟩
          · first | (replace hc108 := of_decide_eq_false hc108) | (replace hc108 := of_decide_eq_true (bnot_f hc108)) | (subst hc108) | (replace hc108 := bnot_f hc108; subst hc108) | (replace hc108 := bnot_f hc108) | skip
            try (have hc108x := hc108; simp only [okS, okI, okW, okP] at hc108x)
            refine wp_exit ?_
            refine then_x ?_
            refine then_x ?_
            refine inb_x ?_
            refine then_n ?_
            refine c_seq ?_
            refine c_region ?_
            refine seq_yl hF (wn_none rfl) rfl rfl (yl_move hF rfl rfl) ?_
            clear hF; intro a hF
            refine seq_yl hF (wn_none rfl) rfl rfl (yl_assign hF rfl rfl) ?_
            clear hF; intro a hF
            refine seq_yl hF (wn_none rfl) rfl rfl (yl_assign hF rfl rfl) ?_
            clear hF; intro a hF
            refine wpList_nil ?_
            refine then_n ?_
            refine wp_ret ?_
            refine ret_tt hF rfl rfl rfl ?_
            have hrd := (read_yes (k := k) hd9 hs9 (by omega))
            rw [hrd]; exact ⟨_, rfl, rfl, (hS.sub [] (by decide) (by first | rfl | simp) (by simp))⟩

end Go.Proofs.Yteidhjdkaaddgaa

/- walks, printed by wip/gen -/
import Derived.Test.YtiifpgkdgnoafaaW2
import Derived.Test.YtiifpgkdgnoafaaP7
namespace Go.Proofs.Ytiifpgkdgnoafaa
open Go.RowKit
set_option linter.unusedVariables false
set_option linter.unusedSimpArgs false

theorem divide2_any (v : Value) (L : List E36) (n : Int) (hn63 : n ≤ 9223372036854775807) (w0 : World) (hv : Rd w0 3 v (L).length (cells enc36 (L))) (hL : L.length ≤ 1000000) :
    Fn Try.prog 16 #[v, .int .i64 n] w0 (fun v w' => ∃ v1, v = v1 ∧ Sat w0 w' [.row 3 1 v1 (divF L n).length (cells encI (divF L n))]) := by
  obtain ⟨Av, cv, rfl⟩ := Rd.form hv
  refine c_enter (N := 71) (l := [_, _]) Try.func16 rfl rfl (fun a w hF hS => ?_)
  replace hS := hS.addRo hv
  refine c_seq ?_
  refine c_region ?_
  refine seq_yl hF (wn_none rfl) rfl rfl (yl_assign hF rfl rfl) ?_
  clear hF; intro a hF
  refine wpList_nil ?_
  refine then_n ?_
  refine c_seq ?_
  refine c_seq ?_
  refine c_region ?_
  refine seq_yl hF (wn_none rfl) rfl rfl (yl_move hF rfl rfl) ?_
  clear hF; intro a hF
  refine seq_wp (wn_none rfl) (wp_call (vs := [_]) hF rfl rfl rfl rfl cf20 (check2_any _ L _ (hS.rdRo 0 rfl) (by first | omega | (simp; done) | (simp; omega) | (rw [chF_len]; first | omega | (simp; done) | (simp; omega)) | (rw [unF_len]; first | omega | (simp; done) | (simp; omega)))) ?_)
  clear hF; rintro _ w ⟨rfl, hS1⟩ a hF
  replace hS := hS.callB hS1 rfl; clear hS1
  refine seq_yl hF (wn_none rfl) rfl rfl (yl_un hF rfl rfl (fun _ => run_not)) ?_
  clear hF; intro a hF
  refine seq_yl hF (wn_none rfl) rfl rfl (yl_move hF rfl rfl) ?_
  clear hF; intro a hF
  refine fr_split hF (fun hc377 hF => ?_) (fun hc377 hF => ?_)
  · first | (replace hc377 := of_decide_eq_true hc377) | (replace hc377 := of_decide_eq_false (bnot_t hc377)) | (subst hc377) | (replace hc377 := bnot_t hc377; subst hc377) | (replace hc377 := bnot_t hc377) | skip
    refine seq_skip hF (wn_f hF rfl rfl rfl rfl) rfl rfl ?_
    clear hF; intro a hF
    refine seq_skip hF (wn_f hF rfl rfl rfl rfl) rfl rfl ?_
    clear hF; intro a hF
    refine seq_yl hF (wn_none rfl) rfl rfl (yl_pick (u := _) (v := undef) hF rfl rfl (fun _ => rfl) (fun h => by cases h)) ?_
    clear hF; intro a hF
    refine wpList_nil ?_
    refine then_n ?_
    refine c_cond_t hF rfl ?_
    refine c_seq ?_
    refine c_region ?_
    refine seq_yl hF (wn_none rfl) rfl rfl (yl_assign hF rfl rfl) ?_
    clear hF; intro a hF
    refine wpList_nil ?_
    refine then_n ?_
    refine wp_ret ?_
    refine then_r ?_
    refine ret_t hF rfl rfl ?_
    have hd : divF L n = [] := by unfold divF; rw [if_neg]; rintro ⟨h8, h9⟩; first | omega | simp_all
    rw [hd]
    replace hS := hS.addNil 3 1
    exact ⟨_, rfl, _, rfl, (hS.sub [0] (by decide) (by first | rfl | simp) (by simp))⟩
  · first | (replace hc377 := of_decide_eq_false hc377) | (replace hc377 := of_decide_eq_true (bnot_f hc377)) | (subst hc377) | (replace hc377 := bnot_f hc377; subst hc377) | (replace hc377 := bnot_f hc377) | skip
    refine seq_yl hF (wn_t hF rfl rfl rfl rfl) rfl rfl (yl_move hF rfl rfl) ?_
    clear hF; intro a hF
    refine seq_yl hF (wn_t hF rfl rfl rfl rfl) rfl rfl (yl_bin hF rfl rfl rfl rfl (fun _ => run_lss)) ?_
    clear hF; intro a hF
    refine seq_yl hF (wn_none rfl) rfl rfl (yl_pick (u := _) (v := undef) hF rfl rfl (fun h => by cases h) (fun _ => rfl)) ?_
    clear hF; intro a hF
    refine wpList_nil ?_
    refine then_n ?_
    refine c_cond hF rfl (fun hc379 => ?_) (fun hc379 => ?_)
    · first | (replace hc379 := of_decide_eq_true hc379) | (replace hc379 := of_decide_eq_false (bnot_t hc379)) | (subst hc379) | (replace hc379 := bnot_t hc379; subst hc379) | (replace hc379 := bnot_t hc379) | skip
      refine c_seq ?_
      refine c_region ?_
      refine seq_yl hF (wn_none rfl) rfl rfl (yl_assign hF rfl rfl) ?_
      clear hF; intro a hF
      refine wpList_nil ?_
      refine then_n ?_
      refine wp_ret ?_
      refine then_r ?_
      refine ret_t hF rfl rfl ?_
      have hd : divF L n = [] := by unfold divF; rw [if_neg]; rintro ⟨h8, h9⟩; first | omega | simp_all
      rw [hd]
      replace hS := hS.addNil 3 1
      exact ⟨_, rfl, _, rfl, (hS.sub [0] (by decide) (by first | rfl | simp) (by simp))⟩
    · first | (replace hc379 := of_decide_eq_false hc379) | (replace hc379 := of_decide_eq_true (bnot_f hc379)) | (subst hc379) | (replace hc379 := bnot_f hc379; subst hc379) | (replace hc379 := bnot_f hc379) | skip
      refine wp_skip ?_
      refine then_n ?_
      refine c_seq ?_
      refine c_region ?_
      obtain ⟨hmem, hl1, hl4⟩ := chkG_inv (L := L) (by assumption)
      refine seq_yl hF (wn_none rfl) rfl rfl (yl_move hF rfl rfl) ?_
      clear hF; intro a hF
      refine seq_yl hF (wn_none rfl) rfl rfl (yl_len hF rfl rfl (fun _ => run_lenRd sl26 (hS.rdRo 0 rfl))) ?_
      clear hF; intro a hF
      refine seq_wp (wn_none rfl) (wp_make (m := (L).length) (enc := encI) hF hS rfl rfl rfl rfl rfl (by omega) sl22 inf3 (0 : Int) made_I (by omega) (by omega) (by omega) ?_)
      clear hF hS; intro a w v381 hF hS
      obtain ⟨Av381, cv381, rfl⟩ := hS.form 0 rfl
      refine seq_yl hF (wn_none rfl) rfl rfl (yl_assign hF rfl rfl) ?_
      clear hF; intro a hF
      refine wpList_nil ?_
      refine then_n ?_
      refine c_seq ?_
      refine c_seq ?_
      refine c_region ?_
      refine seq_yl hF (wn_none rfl) rfl rfl (yl_assign hF rfl rfl) ?_
      clear hF; intro a hF
      refine wpList_nil ?_
      refine then_n ?_
      refine wp_block ?_
      rw [rep_zero (by omega)] at hS hF
      refine c_loop (fun m a w => ∃ (pp nn : Int) (S : List Int) (AvS : Option Addr) (mvS cvS : Nat), m = (2 - pp).toNat ∧ ((0 ≤ pp ∧ pp ≤ 2) ∧ (0 ≤ nn ∧ nn ≤ 9223372036854775807) ∧ S.length = 4 ∧ (∀ e ∈ S, 0 ≤ e ∧ e ≤ 64) ∧ divRun L n.toNat [0, 0, 0, 0] = divRun L nn.toNat S ∧ (1 ≤ pp → 0 < nn → moreF exF S L = S) ∧ (2 ≤ pp → 0 < nn → moreF E36.f2 S L = S)) ∧ Fr 71 a [(0, .slice Av (L).length cv), (1, .int .i64 (nn)), (5, .slice AvS mvS cvS), (6, .int .i64 (pp))] ∧ Sat w0 w (.ro 3 (.slice Av (L).length cv) (L).length (cells enc36 (L)) :: .row 3 1 (.slice AvS mvS cvS) ((S.take L.length)).length (cells encI ((S.take L.length))) :: [])) ((2 - (0 : Int)).toNat) ?_ ?_
      · exact ⟨0, n, [0, 0, 0, 0], Av381, _, cv381, rfl, ⟨by omega, by omega, rfl, by decide, rfl, fun h => absurd h (by decide), fun h => absurd h (by decide)⟩, hF.to [0, 1, 5, 6] rfl, (hS.sub [1, 0] (by decide) (by first | rfl | simp) (by simp))⟩
      · clear hF hS; try clear hSS
        clear a w; rintro m a w ⟨pp, nn, S, AvS, mvS, cvS, rfl, hinv, hF, hS⟩
        obtain ⟨hpp, hnn, hS4, hSb, hrun, hf1, hf2⟩ := hinv
        have hmS : ∀ e ∈ S.take L.length, 0 ≤ e ∧ e ≤ 64 := fun e he => hSb e (List.mem_of_mem_take he)
        refine c_seq ?_
        refine c_seq ?_
        refine c_region ?_
        refine seq_yl hF (wn_none rfl) rfl rfl (yl_move hF rfl rfl) ?_
        clear hF; intro a hF
        refine seq_yl hF (wn_none rfl) rfl rfl (yl_bin hF rfl rfl rfl rfl (fun _ => run_lss)) ?_
        clear hF; intro a hF
        refine wpList_nil ?_
        refine then_n ?_
        refine c_cond hF rfl (fun hc382 => ?_) (fun hc382 => ?_)
        · first | (replace hc382 := of_decide_eq_true hc382) | (replace hc382 := of_decide_eq_false (bnot_t hc382)) | (subst hc382) | (replace hc382 := bnot_t hc382; subst hc382) | (replace hc382 := bnot_t hc382) | skip
          refine wp_skip ?_
          refine then_n ?_
          refine c_seq ?_
          refine wp_block ?_
          refine wp_block ?_
          refine c_loop (fun m a w => ∃ (n1 : Int) (S1 : List Int) (AvT : Option Addr) (mvT cvT : Nat), m = n1.toNat ∧ ((0 ≤ pp ∧ pp ≤ 2) ∧ (0 ≤ n1 ∧ n1 ≤ 9223372036854775807) ∧ S1.length = 4 ∧ (∀ e ∈ S1, 0 ≤ e ∧ e ≤ 64) ∧ divRun L n.toNat [0, 0, 0, 0] = divRun L n1.toNat S1 ∧ (1 ≤ pp → 0 < n1 → moreF exF S1 L = S1)) ∧ Fr 71 a [(0, .slice Av (L).length cv), (1, .int .i64 (n1)), (5, .slice AvT mvT cvT), (6, .int .i64 (pp))] ∧ Sat w0 w (.ro 3 (.slice Av (L).length cv) (L).length (cells enc36 (L)) :: .row 3 1 (.slice AvT mvT cvT) ((S1.take L.length)).length (cells encI ((S1.take L.length))) :: [])) (nn.toNat) ?_ ?_
          · exact ⟨nn, S, AvS, mvS, cvS, rfl, ⟨hpp, hnn, hS4, hSb, hrun, hf1⟩, hF.to [0, 1, 5, 6] rfl, (hS.sub [0, 1] (by decide) (by first | rfl | simp) (by simp))⟩
          · clear hF hS; try clear hSS
            clear a w; rintro m a w ⟨n1, S1, AvT, mvT, cvT, rfl, hinv, hF, hS⟩
            clear hf1
            obtain ⟨hp1, hn1, h14, h1b, hr1, hf1⟩ := hinv
            have hmT : ∀ e ∈ S1.take L.length, 0 ≤ e ∧ e ≤ 64 := fun e he => h1b e (List.mem_of_mem_take he)
            refine c_seq ?_
            refine c_seq ?_
            refine c_region ?_
            refine seq_yl hF (wn_none rfl) rfl rfl (yl_move hF rfl rfl) ?_
            clear hF; intro a hF
            refine seq_yl hF (wn_none rfl) rfl rfl (yl_bin hF rfl rfl rfl rfl (fun _ => run_gtr)) ?_
            clear hF; intro a hF
            refine wpList_nil ?_
            refine then_n ?_
            refine c_cond hF rfl (fun hc383 => ?_) (fun hc383 => ?_)
            · first | (replace hc383 := of_decide_eq_true hc383) | (replace hc383 := of_decide_eq_false (bnot_t hc383)) | (subst hc383) | (replace hc383 := bnot_t hc383; subst hc383) | (replace hc383 := bnot_t hc383) | skip
              refine wp_skip ?_
              refine then_n ?_
              refine wp_block ?_
              refine c_seq ?_
              refine c_region ?_
              refine seq_yl hF (wn_none rfl) rfl rfl (yl_assign hF rfl rfl) ?_
              clear hF; intro a hF
              refine seq_yl hF (wn_none rfl) rfl rfl (yl_assign hF rfl rfl) ?_
              clear hF; intro a hF
              refine wpList_nil ?_
              refine then_n ?_
              refine c_seq ?_
              refine c_seq ?_
              refine c_region ?_
              refine seq_yl hF (wn_none rfl) rfl rfl (yl_assign hF rfl rfl) ?_
              clear hF; intro a hF
              refine wpList_nil ?_
              refine then_n ?_
              refine wp_block ?_
              refine c_loop (fun m a w => ∃ (k : Nat) (best most : Int) (AvT : Option Addr) (cvT : Nat), m = L.length - k ∧ (k ≤ L.length ∧ bestF (hP pp) S1 L k = (best, most) ∧ -1 ≤ best ∧ best < k) ∧ Fr 71 a [(0, .slice Av (L).length cv), (1, .int .i64 (n1)), (5, .slice AvT mvT cvT), (6, .int .i64 (pp)), (7, .int .i64 (best)), (8, .int .i64 (most)), (9, .int .i64 ((k : Nat) : Int))] ∧ Sat w0 w (.ro 3 (.slice Av (L).length cv) (L).length (cells enc36 (L)) :: .row 3 1 (.slice AvT mvT cvT) ((S1.take L.length)).length (cells encI ((S1.take L.length))) :: [])) (L.length - 0) ?_ ?_
              · exact ⟨0, -1, 0, AvT, cvT, rfl, ⟨Nat.zero_le _, rfl, by omega, by omega⟩, hF.to [0, 1, 5, 6, 7, 8, 9] rfl, (hS.sub [0, 1] (by decide) (by first | rfl | simp) (by simp))⟩
              · clear hF hS; try clear hSS
                clear a w; rintro m a w ⟨k, best, most, AvT, cvT, rfl, hinv, hF, hS⟩
                obtain ⟨hk, hbm, hb1, hb2⟩ := hinv
                refine c_seq ?_
                refine c_seq ?_
                refine c_region ?_
                refine seq_yl hF (wn_none rfl) rfl rfl (yl_move hF rfl rfl) ?_
                clear hF; intro a hF
                refine seq_yl hF (wn_none rfl) rfl rfl (yl_move hF rfl rfl) ?_
                clear hF; intro a hF
                refine seq_yl hF (wn_none rfl) rfl rfl (yl_len hF rfl rfl (fun _ => run_lenRd sl26 (hS.rdRo 0 rfl))) ?_
                clear hF; intro a hF
                refine seq_yl hF (wn_none rfl) rfl rfl (yl_bin hF rfl rfl rfl rfl (fun _ => run_lss)) ?_
                clear hF; intro a hF
                refine wpList_nil ?_
                refine then_n ?_
                refine c_cond hF rfl (fun hc384 => ?_) (fun hc384 => ?_)
                · first | (replace hc384 := of_decide_eq_true hc384) | (replace hc384 := of_decide_eq_false (bnot_t hc384)) | (subst hc384) | (replace hc384 := bnot_t hc384; subst hc384) | (replace hc384 := bnot_t hc384) | skip
                  refine wp_skip ?_
                  refine then_n ?_
                  refine c_seq ?_
                  refine wp_block ?_
                  refine c_seq ?_
                  refine ha_startS hS [0, 1] 11 (by kernel_rfl) ?_; clear hS; intro w hS
                  have hSS := hS.sub [0, 1] (by decide) rfl (by simp)
                  refine ha_yl 0 hF rfl rfl rfl (by kernel_rfl) (by kernel_rfl) (by kernel_rfl) (by decide) (fun _ _ _ h => h) (wn_none rfl) (.inr hSS) (yl_move hF rfl rfl) ?_
                  clear hF; intro a hF
                  refine ha_yl 1 hF rfl rfl rfl (by kernel_rfl) (by kernel_rfl) (by kernel_rfl) (by decide) (fun _ _ _ h => h) (wn_none rfl) (.inr hSS) (yl_move hF rfl rfl) ?_
                  clear hF; intro a hF
                  have hlt_hx385 : k < (L).length := by first | omega | (simp; done) | (simp; omega)
                  obtain ⟨ad386, rfl⟩ := rd_some (hS.rdRo 0 rfl) hlt_hx385
                  obtain ⟨x385, hx385⟩ := get_some hlt_hx385
                  have hb_x385 := hmem x385 (List.mem_of_getElem? hx385)
                  refine ha_yl 2 hF rfl rfl rfl (by kernel_rfl) (by kernel_rfl) (by kernel_rfl) (by decide) (fun _ _ _ h => h) (wn_none rfl) (.inr hSS) (yl_indexAddr hF rfl rfl rfl (fun _ => run_idx' sl26 sz36 (hS.rdRo 0 rfl) hlt_hx385)) ?_
                  clear hF; intro a hF
                  refine ha_yl 3 hF rfl rfl rfl (by kernel_rfl) (by kernel_rfl) (by kernel_rfl) (by decide) (fun _ _ _ h => h) (wn_none rfl) (.inr hSS) (yl_fieldAddr hF rfl rfl (fun w => run_fa fo36_2)) ?_
                  clear hF; intro a hF
                  refine ha_yl 5 hF rfl rfl rfl (by kernel_rfl) (by kernel_rfl) (by kernel_rfl) (by decide) (fun _ _ _ h => h) (wn_none rfl) (.inr hSS) (yl_move hF rfl rfl) ?_
                  clear hF; intro a hF
                  refine ha_yl 6 hF rfl rfl rfl (by kernel_rfl) (by kernel_rfl) (by kernel_rfl) (by decide) (fun _ _ _ h => h) (wn_none rfl) (.inr hSS) (yl_move hF rfl rfl) ?_
                  clear hF; intro a hF
                  have hlt_hx387 : k < ((S1.take L.length)).length := by first | omega | (simp; omega)
                  obtain ⟨ad388, rfl⟩ := rd_some (hS.rdRow 1 rfl) hlt_hx387
                  obtain ⟨x387, hx387⟩ := get_some hlt_hx387
                  have hb_x387 := hmT x387 (List.mem_of_getElem? hx387)
                  refine ha_yl 7 hF rfl rfl rfl (by kernel_rfl) (by kernel_rfl) (by kernel_rfl) (by decide) (fun _ _ _ h => h) (wn_none rfl) (.inr hSS) (yl_indexAddr hF rfl rfl rfl (fun _ => run_idx' sl22 sz3 (hS.rdRow 1 rfl) hlt_hx387)) ?_
                  clear hF; intro a hF
                  refine ha_ld 4 hF rfl rfl rfl (by kernel_rfl) (by kernel_rfl) (by kernel_rfl) (by decide) (by kernel_rfl) (by kernel_rfl) (fun _ _ _ h => h) (wn_none rfl) hSS (yl_loadAt hF rfl rfl ag3 (fun _ h => rd_cell (j := 2) (enc := enc36) (Sat.rdRo h 0 rfl) enc36_len hx385 rfl rfl)) ?_
                  clear hF; intro a hF
                  refine ha_ld 8 hF rfl rfl rfl (by kernel_rfl) (by kernel_rfl) (by kernel_rfl) (by decide) (by kernel_rfl) (by kernel_rfl) (fun _ _ _ h => h) (wn_none rfl) hSS (yl_loadAt hF rfl rfl ag3 (fun _ h => rd_cell0 (enc := encI) (Sat.rdRow h 1 rfl) encI_len hx387 rfl rfl)) ?_
                  clear hF; intro a hF
                  refine ha_yl 9 hF rfl rfl rfl (by kernel_rfl) (by kernel_rfl) (by kernel_rfl) (by decide) (fun _ _ _ h => h) (wn_none rfl) (.inr hSS) (yl_bin hF rfl rfl rfl rfl (fun _ => run_sub (by simp only [okG] at *; refine ⟨?_, ?_⟩ <;> omega))) ?_
                  clear hF; intro a hF
                  refine ha_yl 10 hF rfl rfl rfl (by kernel_rfl) (by kernel_rfl) (by kernel_rfl) (by decide) (fun _ _ _ h => h) (wn_none rfl) (.inr hSS) (yl_assign hF rfl rfl) ?_
                  clear hF; intro a hF
                  refine ha_done (by kernel_rfl) ?_ _
                  refine then_n ?_
                  refine c_seq ?_
                  refine c_seq ?_
                  refine c_region ?_
                  refine seq_yl hF (wn_none rfl) rfl rfl (yl_move hF rfl rfl) ?_
                  clear hF; intro a hF
                  refine seq_yl hF (wn_none rfl) rfl rfl (yl_bin hF rfl rfl rfl rfl (fun _ => run_eql)) ?_
                  clear hF; intro a hF
                  refine wpList_nil ?_
                  refine then_n ?_
                  refine c_cond hF rfl (fun hc389 => ?_) (fun hc389 => ?_)
                  · first | (replace hc389 := of_decide_eq_true hc389) | (replace hc389 := of_decide_eq_false (bnot_t hc389)) | (subst hc389) | (replace hc389 := bnot_t hc389; subst hc389) | (replace hc389 := bnot_t hc389) | skip
                    refine ha_startS hS [0, 1] 11 (by kernel_rfl) ?_; clear hS; intro w hS
                    have hSS := hS.sub [0, 1] (by decide) rfl (by simp)
                    refine ha_yl 0 hF rfl rfl rfl (by kernel_rfl) (by kernel_rfl) (by kernel_rfl) (by decide) (fun _ _ _ h => h) (wn_none rfl) (.inr hSS) (yl_move hF rfl rfl) ?_
                    clear hF; intro a hF
                    refine ha_yl 1 hF rfl rfl rfl (by kernel_rfl) (by kernel_rfl) (by kernel_rfl) (by decide) (fun _ _ _ h => h) (wn_none rfl) (.inr hSS) (yl_move hF rfl rfl) ?_
                    clear hF; intro a hF
                    refine ha_yl 2 hF rfl rfl rfl (by kernel_rfl) (by kernel_rfl) (by kernel_rfl) (by decide) (fun _ _ _ h => h) (wn_none rfl) (.inr hSS) (yl_indexAddr hF rfl rfl rfl (fun _ => run_idx' sl26 sz36 (hS.rdRo 0 rfl) hlt_hx385)) ?_
                    clear hF; intro a hF
                    refine ha_yl 5 hF rfl rfl rfl (by kernel_rfl) (by kernel_rfl) (by kernel_rfl) (by decide) (fun _ _ _ h => h) (wn_none rfl) (.inr hSS) (yl_move hF rfl rfl) ?_
                    clear hF; intro a hF
                    refine ha_yl 6 hF rfl rfl rfl (by kernel_rfl) (by kernel_rfl) (by kernel_rfl) (by decide) (fun _ _ _ h => h) (wn_none rfl) (.inr hSS) (yl_move hF rfl rfl) ?_
                    clear hF; intro a hF
                    refine ha_yl 7 hF rfl rfl rfl (by kernel_rfl) (by kernel_rfl) (by kernel_rfl) (by decide) (fun _ _ _ h => h) (wn_none rfl) (.inr hSS) (yl_indexAddr hF rfl rfl rfl (fun _ => run_idx' sl22 sz3 (hS.rdRow 1 rfl) hlt_hx387)) ?_
                    clear hF; intro a hF
                    refine ha_ld 3 hF rfl rfl rfl (by kernel_rfl) (by kernel_rfl) (by kernel_rfl) (by decide) (by kernel_rfl) (by kernel_rfl) (fun _ _ _ h => h) (wn_none rfl) hSS (yl_loadEl (rs := [.int .i64 (x385.f0), .int .i64 (x385.f1), .int .i64 (x385.f2)]) hF rfl rfl ag36 sz36 rfl (fun _ h => rd_cells (enc := enc36) (Sat.rdRo h 0 rfl) enc36_len hx385)) ?_
                    clear hF; intro a hF
                    refine ha_ld 8 hF rfl rfl rfl (by kernel_rfl) (by kernel_rfl) (by kernel_rfl) (by decide) (by kernel_rfl) (by kernel_rfl) (fun _ _ _ h => h) (wn_none rfl) hSS (yl_loadAt hF rfl rfl ag3 (fun _ h => rd_cell0 (enc := encI) (Sat.rdRow h 1 rfl) encI_len hx387 rfl rfl)) ?_
                    clear hF; intro a hF
                    have hh390 := exF_in hb_x385
                    refine ha_one 4 (by kernel_rfl) rfl (wn_none rfl) (wp_call (vs := [_]) hF rfl rfl rfl rfl cf18 (excess2_any x385 _ (by have h9 := hb_x385; unfold okG at h9; exact ⟨by omega, by omega⟩)) ?_)
                    clear hF; rintro _ w ⟨rfl, hS1⟩ a hF
                    replace hS := hS.callB hS1 rfl; clear hS1
                    replace hSS := hS.sub [0, 1] (by decide) rfl (by simp)
                    refine ⟨.inr hSS, ?_⟩
                    refine ha_yl 9 hF rfl rfl rfl (by kernel_rfl) (by kernel_rfl) (by kernel_rfl) (by decide) (fun _ _ _ h => h) (wn_none rfl) (.inr hSS) (yl_bin hF rfl rfl rfl rfl (fun _ => run_sub (by simp only [okG] at *; refine ⟨?_, ?_⟩ <;> omega))) ?_
                    clear hF; intro a hF
                    refine ha_yl 10 hF rfl rfl rfl (by kernel_rfl) (by kernel_rfl) (by kernel_rfl) (by decide) (fun _ _ _ h => h) (wn_none rfl) (.inr hSS) (yl_assign hF rfl rfl) ?_
                    clear hF; intro a hF
                    refine ha_done (by kernel_rfl) ?_ _
                    refine then_n ?_
                    refine c_seq ?_
                    refine c_region ?_
                    refine seq_yl hF (wn_none rfl) rfl rfl (yl_move hF rfl rfl) ?_
                    clear hF; intro a hF
                    refine seq_yl hF (wn_none rfl) rfl rfl (yl_move hF rfl rfl) ?_
                    clear hF; intro a hF
                    refine seq_yl hF (wn_none rfl) rfl rfl (yl_bin hF rfl rfl rfl rfl (fun _ => run_gtr)) ?_
                    clear hF; intro a hF
                    refine wpList_nil ?_
                    refine then_n ?_
                    refine c_cond hF rfl (fun hc391 => ?_) (fun hc391 => ?_)
                    · first | (replace hc391 := of_decide_eq_true hc391) | (replace hc391 := of_decide_eq_false (bnot_t hc391)) | (subst hc391) | (replace hc391 := bnot_t hc391; subst hc391) | (replace hc391 := bnot_t hc391) | skip
                      refine c_region ?_
                      refine seq_yl hF (wn_none rfl) rfl rfl (yl_move hF rfl rfl) ?_
                      clear hF; intro a hF
                      refine seq_yl hF (wn_none rfl) rfl rfl (yl_move hF rfl rfl) ?_
                      clear hF; intro a hF
                      refine seq_yl hF (wn_none rfl) rfl rfl (yl_assign hF rfl rfl) ?_
                      clear hF; intro a hF
                      refine seq_yl hF (wn_none rfl) rfl rfl (yl_assign hF rfl rfl) ?_
                      clear hF; intro a hF
                      refine wpList_nil ?_
                      refine inb_n ?_
                      refine then_n ?_
                      refine c_region ?_
                      refine seq_yl hF (wn_none rfl) rfl rfl (yl_move hF rfl rfl) ?_
                      clear hF; intro a hF
                      refine seq_yl hF (wn_none rfl) rfl rfl (yl_bin hF rfl rfl rfl rfl (fun _ => run_inc (by omega))) ?_
                      clear hF; intro a hF
                      refine seq_yl hF (wn_none rfl) rfl rfl (yl_assign hF rfl rfl) ?_
                      clear hF; intro a hF
                      refine wpList_nil ?_
                      refine then_n ?_
                      exact ⟨_, (by omega), k + 1, ((k : Nat) : Int), ((((exF x385)) - (x387))), (some ad388), cvT, rfl, ⟨by omega, by first | exact best_yesP (hP_0 (by assumption) _) hbm hx385 hx387 (by omega) | exact best_yesP (hP_1 (by assumption) _) hbm hx385 hx387 (by omega), by omega, by omega⟩, hF.to [0, 1, 5, 6, 7, 8, 9] rfl, (hS.sub [0, 1] (by decide) (by first | rfl | simp) (by simp))⟩
                    · first | (replace hc391 := of_decide_eq_false hc391) | (replace hc391 := of_decide_eq_true (bnot_f hc391)) | (subst hc391) | (replace hc391 := bnot_f hc391; subst hc391) | (replace hc391 := bnot_f hc391) | skip
                      refine wp_skip ?_
                      refine inb_n ?_
                      refine then_n ?_
                      refine c_region ?_
                      refine seq_yl hF (wn_none rfl) rfl rfl (yl_move hF rfl rfl) ?_
                      clear hF; intro a hF
                      refine seq_yl hF (wn_none rfl) rfl rfl (yl_bin hF rfl rfl rfl rfl (fun _ => run_inc (by omega))) ?_
                      clear hF; intro a hF
                      refine seq_yl hF (wn_none rfl) rfl rfl (yl_assign hF rfl rfl) ?_
                      clear hF; intro a hF
                      refine wpList_nil ?_
                      refine then_n ?_
                      exact ⟨_, (by omega), k + 1, (best), (most), (some ad388), cvT, rfl, ⟨by omega, by first | exact best_noP (hP_0 (by assumption) _) hbm hx385 hx387 (by omega) | exact best_noP (hP_1 (by assumption) _) hbm hx385 hx387 (by omega), by omega, by omega⟩, hF.to [0, 1, 5, 6, 7, 8, 9] rfl, (hS.sub [0, 1] (by decide) (by first | rfl | simp) (by simp))⟩
                  · first | (replace hc389 := of_decide_eq_false hc389) | (replace hc389 := of_decide_eq_true (bnot_f hc389)) | (subst hc389) | (replace hc389 := bnot_f hc389; subst hc389) | (replace hc389 := bnot_f hc389) | skip
                    refine wp_skip ?_
                    refine then_n ?_
                    refine c_seq ?_
                    refine c_region ?_
                    refine seq_yl hF (wn_none rfl) rfl rfl (yl_move hF rfl rfl) ?_
                    clear hF; intro a hF
                    refine seq_yl hF (wn_none rfl) rfl rfl (yl_move hF rfl rfl) ?_
                    clear hF; intro a hF
                    refine seq_yl hF (wn_none rfl) rfl rfl (yl_bin hF rfl rfl rfl rfl (fun _ => run_gtr)) ?_
                    clear hF; intro a hF
                    refine wpList_nil ?_
                    refine then_n ?_
                    refine c_cond hF rfl (fun hc392 => ?_) (fun hc392 => ?_)
                    · first | (replace hc392 := of_decide_eq_true hc392) | (replace hc392 := of_decide_eq_false (bnot_t hc392)) | (subst hc392) | (replace hc392 := bnot_t hc392; subst hc392) | (replace hc392 := bnot_t hc392) | skip
                      refine c_region ?_
                      refine seq_yl hF (wn_none rfl) rfl rfl (yl_move hF rfl rfl) ?_
                      clear hF; intro a hF
                      refine seq_yl hF (wn_none rfl) rfl rfl (yl_move hF rfl rfl) ?_
                      clear hF; intro a hF
                      refine seq_yl hF (wn_none rfl) rfl rfl (yl_assign hF rfl rfl) ?_
                      clear hF; intro a hF
                      refine seq_yl hF (wn_none rfl) rfl rfl (yl_assign hF rfl rfl) ?_
                      clear hF; intro a hF
                      refine wpList_nil ?_
                      refine inb_n ?_
                      refine then_n ?_
                      refine c_region ?_
                      refine seq_yl hF (wn_none rfl) rfl rfl (yl_move hF rfl rfl) ?_
                      clear hF; intro a hF
                      refine seq_yl hF (wn_none rfl) rfl rfl (yl_bin hF rfl rfl rfl rfl (fun _ => run_inc (by omega))) ?_
                      clear hF; intro a hF
                      refine seq_yl hF (wn_none rfl) rfl rfl (yl_assign hF rfl rfl) ?_
                      clear hF; intro a hF
                      refine wpList_nil ?_
                      refine then_n ?_
                      exact ⟨_, (by omega), k + 1, ((k : Nat) : Int), (((x385.f2) - (x387))), (some ad388), cvT, rfl, ⟨by omega, by first | exact best_yesP (hP_0 (by assumption) _) hbm hx385 hx387 (by omega) | exact best_yesP (hP_1 (by assumption) _) hbm hx385 hx387 (by omega), by omega, by omega⟩, hF.to [0, 1, 5, 6, 7, 8, 9] rfl, (hS.sub [0, 1] (by decide) (by first | rfl | simp) (by simp))⟩
                    · first | (replace hc392 := of_decide_eq_false hc392) | (replace hc392 := of_decide_eq_true (bnot_f hc392)) | (subst hc392) | (replace hc392 := bnot_f hc392; subst hc392) | (replace hc392 := bnot_f hc392) | skip
                      refine wp_skip ?_
                      refine inb_n ?_
                      refine then_n ?_
                      refine c_region ?_
                      refine seq_yl hF (wn_none rfl) rfl rfl (yl_move hF rfl rfl) ?_
                      clear hF; intro a hF
                      refine seq_yl hF (wn_none rfl) rfl rfl (yl_bin hF rfl rfl rfl rfl (fun _ => run_inc (by omega))) ?_
                      clear hF; intro a hF
                      refine seq_yl hF (wn_none rfl) rfl rfl (yl_assign hF rfl rfl) ?_
                      clear hF; intro a hF
                      refine wpList_nil ?_
                      refine then_n ?_
                      exact ⟨_, (by omega), k + 1, (best), (most), (some ad388), cvT, rfl, ⟨by omega, by first | exact best_noP (hP_0 (by assumption) _) hbm hx385 hx387 (by omega) | exact best_noP (hP_1 (by assumption) _) hbm hx385 hx387 (by omega), by omega, by omega⟩, hF.to [0, 1, 5, 6, 7, 8, 9] rfl, (hS.sub [0, 1] (by decide) (by first | rfl | simp) (by simp))⟩
                · first | (replace hc384 := of_decide_eq_false hc384) | (replace hc384 := of_decide_eq_true (bnot_f hc384)) | (subst hc384) | (replace hc384 := bnot_f hc384; subst hc384) | (replace hc384 := bnot_f hc384) | skip
                  refine wp_exit ?_
                  refine then_x ?_
                  refine then_x ?_
                  refine inb_x ?_
                  refine then_n ?_
                  refine c_seq ?_
                  refine c_seq ?_
                  refine c_region ?_
                  refine seq_yl hF (wn_none rfl) rfl rfl (yl_move hF rfl rfl) ?_
                  clear hF; intro a hF
                  refine seq_yl hF (wn_none rfl) rfl rfl (yl_bin hF rfl rfl rfl rfl (fun _ => run_lss)) ?_
                  clear hF; intro a hF
                  refine wpList_nil ?_
                  refine then_n ?_
                  refine c_cond hF rfl (fun hc393 => ?_) (fun hc393 => ?_)
                  · first | (replace hc393 := of_decide_eq_true hc393) | (replace hc393 := of_decide_eq_false (bnot_t hc393)) | (subst hc393) | (replace hc393 := bnot_t hc393; subst hc393) | (replace hc393 := bnot_t hc393) | skip
                    refine wp_exit ?_
                    refine then_x ?_
                    refine inb_o (by decide) ?_
                    refine then_x ?_
                    refine inb_x ?_
                    refine inb_n ?_
                    refine then_n ?_
                    refine c_region ?_
                    refine seq_yl hF (wn_none rfl) rfl rfl (yl_move hF rfl rfl) ?_
                    clear hF; intro a hF
                    refine seq_yl hF (wn_none rfl) rfl rfl (yl_bin hF rfl rfl rfl rfl (fun _ => run_add (by simp only [okG] at *; refine ⟨?_, ?_⟩ <;> omega))) ?_
                    clear hF; intro a hF
                    refine seq_yl hF (wn_none rfl) rfl rfl (yl_assign hF rfl rfl) ?_
                    clear hF; intro a hF
                    refine wpList_nil ?_
                    refine then_n ?_
                    exact ⟨_, (by omega), pp + 1, (n1), S1, AvT, mvT, cvT, rfl, ⟨by omega, by omega, h14, h1b, hr1, (ref_pass (p := pp) (by omega) hf1 (by first | exact .inl (by omega) | exact .inr (more_no hbm (by omega) (by omega)))).1, (ref_pass (p := pp) (by omega) hf1 (by first | exact .inl (by omega) | exact .inr (more_no hbm (by omega) (by omega)))).2⟩, hF.to [0, 1, 5, 6] rfl, (hS.sub [0, 1] (by decide) (by first | rfl | simp) (by simp))⟩
                  · first | (replace hc393 := of_decide_eq_false hc393) | (replace hc393 := of_decide_eq_true (bnot_f hc393)) | (subst hc393) | (replace hc393 := bnot_f hc393; subst hc393) | (replace hc393 := bnot_f hc393) | skip
                    refine wp_skip ?_
                    refine then_n ?_
                    refine c_seq ?_
                    refine c_region ?_
                    refine seq_yl hF (wn_none rfl) rfl rfl (yl_move hF rfl rfl) ?_
                    clear hF; intro a hF
                    refine seq_yl hF (wn_none rfl) rfl rfl (yl_move hF rfl rfl) ?_
                    clear hF; intro a hF
                    replace hF := fr_seti (b' := ((best.toNat : Nat) : Int)) hF (by omega)
                    have hlt_hx394 : best.toNat < ((S1.take L.length)).length := by first | omega | (simp; omega)
                    obtain ⟨ad395, rfl⟩ := rd_some (hS.rdRow 1 rfl) hlt_hx394
                    obtain ⟨x394, hx394⟩ := get_some hlt_hx394
                    have hb_x394 := hmT x394 (List.mem_of_getElem? hx394)
                    refine seq_yl hF (wn_none rfl) rfl rfl (yl_indexAddr hF rfl rfl rfl (fun _ => run_idx' sl22 sz3 (hS.rdRow 1 rfl) hlt_hx394)) ?_
                    clear hF; intro a hF
                    refine seq_yl hF (wn_none rfl) rfl rfl (yl_loadAt hF rfl rfl ag3 (fun _ h => rd_cell0 (enc := encI) (by subst h; exact hS.rdRow 1 rfl) encI_len hx394 rfl rfl)) ?_
                    clear hF; intro a hF
                    refine seq_yl hF (wn_none rfl) rfl rfl (yl_bin hF rfl rfl rfl rfl (fun _ => run_add (by simp only [okG] at *; refine ⟨?_, ?_⟩ <;> omega))) ?_
                    clear hF; intro a hF
                    refine seq_yl hF (wn_none rfl) rfl rfl (yl_indexAddr hF rfl rfl rfl (fun _ => run_idx' sl22 sz3 (hS.rdRow 1 rfl) hlt_hx394)) ?_
                    clear hF; intro a hF
                    refine seq_wp (wn_none rfl) (wp_storeAt0 (enc := encI) (z' := (((x394) + (1 : Int)))) hF hS rfl rfl rfl rfl 1 rfl sz3 (by simp [Value.cells, Value.oneCell']) encI_len hx394 (by simp [Value.cells]) rfl ?_)
                    clear hF hS; intro a w hF hS
                    refine wpList_nil ?_
                    refine then_n ?_
                    refine c_region ?_
                    refine seq_yl hF (wn_none rfl) rfl rfl (yl_move hF rfl rfl) ?_
                    clear hF; intro a hF
                    refine seq_yl hF (wn_none rfl) rfl rfl (yl_bin hF rfl rfl rfl rfl (fun _ => run_sub (by simp only [okG] at *; refine ⟨?_, ?_⟩ <;> omega))) ?_
                    clear hF; intro a hF
                    refine seq_yl hF (wn_none rfl) rfl rfl (yl_assign hF rfl rfl) ?_
                    clear hF; intro a hF
                    refine wpList_nil ?_
                    refine inb_n ?_
                    refine then_n ?_
                    obtain ⟨hset, hne⟩ := more_setP hbm (by omega) (by omega) hx394
                    rw [hset] at hS
                    obtain ⟨hs1, hs2, hs3⟩ := ref_step (p := pp) (nn := n1) (by omega) (by omega) hne (by omega) hf1
                    exact ⟨_, (by omega), (((n1) - (1 : Int))), moreF (hP pp) S1 L, (some ad395), mvT, cvT, rfl, ⟨by omega, by omega, by omega, more_in (hP_in hmem) h1b, by rw [hr1, hs1], hs2⟩, hF.to [0, 1, 5, 6] rfl, (hS.sub [0, 1] (by decide) (by first | rfl | simp) (by simp))⟩
            · first | (replace hc383 := of_decide_eq_false hc383) | (replace hc383 := of_decide_eq_true (bnot_f hc383)) | (subst hc383) | (replace hc383 := bnot_f hc383; subst hc383) | (replace hc383 := bnot_f hc383) | skip
              refine wp_exit ?_
              refine then_x ?_
              refine then_x ?_
              refine inb_x ?_
              refine inb_n ?_
              refine then_n ?_
              refine c_region ?_
              refine seq_yl hF (wn_none rfl) rfl rfl (yl_move hF rfl rfl) ?_
              clear hF; intro a hF
              refine seq_yl hF (wn_none rfl) rfl rfl (yl_bin hF rfl rfl rfl rfl (fun _ => run_add (by simp only [okG] at *; refine ⟨?_, ?_⟩ <;> omega))) ?_
              clear hF; intro a hF
              refine seq_yl hF (wn_none rfl) rfl rfl (yl_assign hF rfl rfl) ?_
              clear hF; intro a hF
              refine wpList_nil ?_
              refine then_n ?_
              exact ⟨_, (by omega), pp + 1, (n1), S1, AvT, mvT, cvT, rfl, ⟨by omega, by omega, h14, h1b, hr1, (ref_pass (p := pp) (by omega) hf1 (by first | exact .inl (by omega) | exact .inr (more_no hbm (by omega) (by omega)))).1, (ref_pass (p := pp) (by omega) hf1 (by first | exact .inl (by omega) | exact .inr (more_no hbm (by omega) (by omega)))).2⟩, hF.to [0, 1, 5, 6] rfl, (hS.sub [0, 1] (by decide) (by first | rfl | simp) (by simp))⟩
        · first | (replace hc382 := of_decide_eq_false hc382) | (replace hc382 := of_decide_eq_true (bnot_f hc382)) | (subst hc382) | (replace hc382 := bnot_f hc382; subst hc382) | (replace hc382 := bnot_f hc382) | skip
          refine wp_exit ?_
          refine then_x ?_
          refine then_x ?_
          refine inb_x ?_
          refine then_n ?_
          refine c_seq ?_
          refine c_region ?_
          refine seq_yl hF (wn_none rfl) rfl rfl (yl_move hF rfl rfl) ?_
          clear hF; intro a hF
          refine seq_yl hF (wn_none rfl) rfl rfl (yl_assign hF rfl rfl) ?_
          clear hF; intro a hF
          refine wpList_nil ?_
          refine then_n ?_
          refine wp_ret ?_
          refine ret_t hF rfl rfl ?_
          have hd : divF L n = S.take L.length := by unfold divF; rw [if_pos ⟨by assumption, by omega⟩, hrun, ref_end (by omega) (fun h => hf1 (by omega) h) (fun h => hf2 (by omega) h)]
          rw [hd]
          exact ⟨_, rfl, _, rfl, (hS.sub [1] (by decide) (by first | rfl | simp) (by simp))⟩

end Go.Proofs.Ytiifpgkdgnoafaa

/- walks, printed by wip/gen -/
import Derived.Test.YtlhcpeolkkadbaaWj
import Derived.Test.YtlhcpeolkkadbaaWd
namespace Go.Proofs.Ytlhcpeolkkadbaa
open Go.RowKit
set_option linter.unusedVariables false
set_option linter.unusedSimpArgs false

set_option maxHeartbeats 1000000 in
set_option maxRecDepth 100000 in
theorem choose2_any (st : ByteArray) (lv : Value) (L : List E59) (rm : Int) (fv : Value) (F : List E59) (pv : Value) (P : List Int) (tv : Value) (T : List Bool) (w0 : World) (hv : Rd w0 2 lv (L).length (cells enc59 (L))) (hz : (st.size : Int) ≤ 9223372036854775807) (hL : L.length ≤ 1000000) (hf : Rd w0 2 fv (F).length (cells enc59 (F))) (hF0 : F.length ≤ 1000000) (hp : Rd w0 1 pv (P).length (cells encI (P))) (ht : Rd w0 1 tv (T).length (cells encB (T))) (hP : P.length ≤ 1000000) (hT : T.length ≤ 1000000) :
    Fn Try.prog 16 #[.agg #[.string st, lv, .int .i64 rm], fv, .agg #[pv, tv]] w0 (fun v w' => v = .string (chooseF st L F rm P T) ∧ Sat w0 w' []) := by
  obtain ⟨Alv, clv, rfl⟩ := Rd.form hv
  obtain ⟨Afv, cfv, rfl⟩ := Rd.form hf
  obtain ⟨Apv, cpv, rfl⟩ := Rd.form hp
  obtain ⟨Atv, ctv, rfl⟩ := Rd.form ht
  refine c_enter (N := 90) (l := [_, _, _]) Try.func16 rfl rfl (fun a w hF hS => ?_)
  replace hS := hS.addRo ht
  replace hS := hS.addRo hp
  replace hS := hS.addRo hf
  replace hS := hS.addRo hv
  refine c_seq ?_
  refine c_region ?_
  refine seq_wp (wn_none rfl) (wp_box (cs := #[_, _, _]) hF hS rfl rfl rfl rfl rfl ?_)
  clear hF hS; intro a w g367 hF hS
  refine seq_wp (wn_none rfl) (wp_box (cs := #[_, _]) hF hS rfl rfl rfl rfl rfl ?_)
  clear hF hS; intro a w g368 hF hS
  refine seq_yl hF (wn_none rfl) rfl rfl (yl_assign hF rfl rfl) ?_
  clear hF; intro a hF
  refine wpList_nil ?_
  refine then_n ?_
  refine c_seq ?_
  refine c_seq ?_
  refine c_region ?_
  refine seq_yl hF (wn_none rfl) rfl rfl (yl_loadK (rs := [_, _, _]) (fun _ h => h ▸ hS) hF rfl rfl 1 rfl ag24 sz24 rfl rfl) ?_
  clear hF; intro a hF
  refine seq_yl hF (wn_none rfl) rfl rfl (yl_move hF rfl rfl) ?_
  clear hF; intro a hF
  refine seq_wp (wn_none rfl) (wp_call (vs := [_, _]) hF rfl rfl rfl rfl cf37 (flies_any st _ L (rm) _ F _ (hS.rdRo 2 rfl) (by first | omega | (simp; done)) (by first | omega | (simp; done)) (hS.rdRo 3 rfl) (by first | omega | (simp; done))) ?_)
  clear hF; rintro _ w ⟨rfl, hS1⟩ a hF
  replace hS := hS.callB hS1 rfl; clear hS1
  refine seq_yl hF (wn_none rfl) rfl rfl (yl_un hF rfl rfl (fun _ => run_not)) ?_
  clear hF; intro a hF
  refine wpList_nil ?_
  refine then_n ?_
  refine c_cond hF rfl (fun hc369 => ?_) (fun hc369 => ?_)
  · first | (replace hc369 := of_decide_eq_true hc369) | (replace hc369 := of_decide_eq_false (bnot_t hc369)) | (replace hc369 := bnot_t hc369) | skip
    try (have hc369x := hc369; simp only [okS, okI, okW, okP] at hc369x)
    refine c_seq ?_
    refine c_region ?_
    refine seq_yl hF (wn_none rfl) rfl rfl (yl_assign hF rfl rfl) ?_
    clear hF; intro a hF
    refine wpList_nil ?_
    refine then_n ?_
    refine wp_ret ?_
    refine then_r ?_
    refine ret_t hF rfl rfl ?_
    have hrd : chooseF st L F rm P T = (ByteArray.mk #[]) := ch_no (by assumption)
    rw [hrd]; exact ⟨_, rfl, rfl, (hS.sub [] (by decide) (by first | rfl | simp) (by simp))⟩
  · first | (replace hc369 := of_decide_eq_false hc369) | (replace hc369 := of_decide_eq_true (bnot_f hc369)) | (replace hc369 := bnot_f hc369) | skip
    try (have hc369x := hc369; simp only [okS, okI, okW, okP] at hc369x)
    refine wp_skip ?_
    refine then_n ?_
    refine c_seq ?_
    refine c_region ?_
    refine seq_yl hF (wn_none rfl) rfl rfl (yl_fieldAddr hF rfl rfl (fun w => by kernel_rfl : ∀ w, (Instr.fieldAt 24 (.pointer (some ⟨g367, 0, none⟩)) 0).run Try.prog w = .ok (.pointer (some ⟨g367, 0, none⟩)) w)) ?_
    clear hF; intro a hF
    refine seq_yl hF (wn_none rfl) rfl rfl (yl_load (fun _ h => h ▸ hS) hF rfl rfl 1 rfl ag9 rfl) ?_
    clear hF; intro a hF
    refine seq_yl hF (wn_none rfl) rfl rfl (yl_assign hF rfl rfl) ?_
    clear hF; intro a hF
    refine wpList_nil ?_
    refine then_n ?_
    refine c_seq ?_
    refine c_region ?_
    refine seq_yl hF (wn_none rfl) rfl rfl (yl_loadK (rs := [_, _, _]) (fun _ h => h ▸ hS) hF rfl rfl 1 rfl ag24 sz24 rfl rfl) ?_
    clear hF; intro a hF
    refine seq_yl hF (wn_none rfl) rfl rfl (yl_move hF rfl rfl) ?_
    clear hF; intro a hF
    refine seq_wp (wn_none rfl) (wp_call (vs := [_, _]) hF rfl rfl rfl rfl cf14 (csecF2_any st _ L (rm) _ F _ (hS.rdRo 2 rfl) (by first | omega | (simp; done)) (by first | omega | (simp; done)) (hS.rdRo 3 rfl) (by first | omega | (simp; done))) ?_)
    clear hF; rintro _ w ⟨v370, M371, rfl, hM372, hS1⟩ a hF
    replace hS := hS.callB hS1 rfl; clear hS1
    obtain ⟨Av370, cv370, rfl⟩ := hS.form 0 rfl
    refine seq_yl hF (wn_none rfl) rfl rfl (yl_assign hF rfl rfl) ?_
    clear hF; intro a hF
    refine wpList_nil ?_
    refine then_n ?_
    refine c_seq ?_
    refine c_seq ?_
    refine c_region ?_
    refine seq_yl hF (wn_none rfl) rfl rfl (yl_assign hF rfl rfl) ?_
    clear hF; intro a hF
    refine wpList_nil ?_
    refine then_n ?_
    refine wp_block ?_
    have hMN : M371 = (secN st (L ++ F) (st.size / 8)) := hM372.trans (if_pos ‹okC st L F rm›)
    subst hMN
    have hC : okC st L F rm := by assumption
    have hCi := okD_I hC.1
    have hsl := secN_len st (L ++ F) (st.size / 8)
    refine c_loop (fun m a w => ∃ (k : Nat) (im : ByteArray), m = (secN st (L ++ F) (st.size / 8)).length - k ∧ (k ≤ (secN st (L ++ F) (st.size / 8)).length ∧ imQ st (chS st (L ++ F) P T) (secN st (L ++ F) (st.size / 8)) k im) ∧ Fr 90 a [(1, .slice Afv (F).length cfv), (3, .pointer (some ⟨g367, 0, none⟩)), (5, .pointer (some ⟨g368, 0, none⟩)), (7, .string im), (8, .slice Av370 ((secN st (L ++ F) (st.size / 8))).length cv370), (9, .int .i64 ((k : Nat) : Int))] ∧ Sat w0 w (.box g367 24 #[.string st, .slice Alv (L).length clv, .int .i64 (rm)] :: .box g368 28 #[.slice Apv (P).length cpv, .slice Atv (T).length ctv] :: .row 3 1 (.slice Av370 ((secN st (L ++ F) (st.size / 8))).length cv370) ((secN st (L ++ F) (st.size / 8))).length (cells encI ((secN st (L ++ F) (st.size / 8)))) :: .ro 2 (.slice Alv (L).length clv) (L).length (cells enc59 (L)) :: .ro 2 (.slice Afv (F).length cfv) (F).length (cells enc59 (F)) :: .ro 1 (.slice Apv (P).length cpv) (P).length (cells encI (P)) :: .ro 1 (.slice Atv (T).length ctv) (T).length (cells encB (T)) :: [])) ((secN st (L ++ F) (st.size / 8)).length - 0) ?_ ?_
    · exact ⟨0, st, rfl, ⟨by omega, imQ_start _ _ _⟩, hF.to [1, 3, 5, 7, 8, 9] rfl, (hS.sub [2, 1, 0, 3, 4, 5, 6] (by decide) (by first | rfl | simp) (by simp))⟩
    · clear hF hS; try clear hSS
      clear a w; rintro m a w ⟨k, im, rfl, hinv, hF, hS⟩
      obtain ⟨hk, him⟩ := hinv
      have hiz := him.1
      refine c_seq ?_
      refine c_seq ?_
      refine c_region ?_
      refine seq_yl hF (wn_none rfl) rfl rfl (yl_move hF rfl rfl) ?_
      clear hF; intro a hF
      refine seq_yl hF (wn_none rfl) rfl rfl (yl_move hF rfl rfl) ?_
      clear hF; intro a hF
      refine seq_yl hF (wn_none rfl) rfl rfl (yl_len hF rfl rfl (fun _ => run_lenRd sl25 (hS.rdRow 2 rfl))) ?_
      clear hF; intro a hF
      refine seq_yl hF (wn_none rfl) rfl rfl (yl_bin hF rfl rfl rfl rfl (fun _ => run_lss)) ?_
      clear hF; intro a hF
      refine wpList_nil ?_
      refine then_n ?_
      refine c_cond hF rfl (fun hc373 => ?_) (fun hc373 => ?_)
      · first | (replace hc373 := of_decide_eq_true hc373) | (replace hc373 := of_decide_eq_false (bnot_t hc373)) | (replace hc373 := bnot_t hc373) | skip
        try (have hc373x := hc373; simp only [okS, okI, okW, okP] at hc373x)
        refine wp_skip ?_
        refine then_n ?_
        refine c_seq ?_
        refine wp_block ?_
        refine c_seq ?_
        refine ha_startS hS [0, 2] 8 (by kernel_rfl) ?_; clear hS; intro w hS
        have hSS := hS.sub [0, 2] (by decide) rfl (by simp)
        refine ha_y 1 hF rfl rfl rfl (wn_none rfl) (.inr hSS) (yl_move hF rfl rfl) ?_
        clear hF; intro a hF
        refine ha_y 2 hF rfl rfl rfl (wn_none rfl) (.inr hSS) (yl_move hF rfl rfl) ?_
        clear hF; intro a hF
        refine ha_y 3 hF rfl rfl rfl (wn_none rfl) (.inr hSS) (yl_move hF rfl rfl) ?_
        clear hF; intro a hF
        have hlt_hx374 : k < ((secN st (L ++ F) (st.size / 8))).length := by first | omega | (simp; done) | (simp; omega)
        obtain ⟨ad375, rfl⟩ := rd_some (hS.rdRow 2 rfl) hlt_hx374
        obtain ⟨x374, hx374⟩ := get_some hlt_hx374
        refine ha_y 4 hF rfl rfl rfl (wn_none rfl) (.inr hSS) (yl_indexAddr hF rfl rfl rfl (fun _ => run_idx' sl25 sz3 (hS.rdRow 2 rfl) hlt_hx374)) ?_
        clear hF; intro a hF
        refine ha_l 0 hF rfl rfl rfl (wn_none rfl) hSS (yl_loadK (rs := [_, _, _]) (fun _ h => h) hF rfl rfl 0 rfl ag24 sz24 rfl rfl) ?_
        clear hF; intro a hF
        refine ha_l 5 hF rfl rfl rfl (wn_none rfl) hSS (yl_loadAt hF rfl rfl ag3 (fun _ h => rd_cell0 (enc := encI) (Sat.rdRow h 1 rfl) encI_len hx374 rfl rfl)) ?_
        clear hF; intro a hF
        obtain ⟨hsx, hsv, hsq⟩ := secN_S hC hx374
        refine ha_one 6 (by kernel_rfl) rfl (wn_none rfl) (wp_call (vs := [_, _, _]) hF rfl rfl rfl rfl cf38 (cvers2_any st _ L (rm) _ F (x374) _ (hS.rdRo 3 rfl) (by first | omega | (simp; done)) (by first | omega | (simp; done)) (hS.rdRo 4 rfl) (by first | omega | (simp; done)) hC.1 hsx) ?_)
        clear hF; rintro _ w ⟨v376, rfl, hS1⟩ a hF
        replace hS := hS.callB hS1 rfl; clear hS1
        obtain ⟨Av376, cv376, rfl⟩ := hS.form 0 rfl
        have hvn377 := versC_len st (L ++ F) (x374); simp only [List.length_append] at hvn377
        replace hSS := hS.sub [1, 3] (by decide) rfl (by simp)
        refine ⟨.inr hSS, ?_⟩
        refine ha_y 7 hF rfl rfl rfl (wn_none rfl) (.inr hSS) (yl_assign hF rfl rfl) ?_
        clear hF; intro a hF
        refine ha_done (by kernel_rfl) ?_ _
        refine then_n ?_
        refine c_seq ?_
        refine c_region ?_
        refine seq_yl hF (wn_none rfl) rfl rfl (yl_assign hF rfl rfl) ?_
        clear hF; intro a hF
        refine wpList_nil ?_
        refine then_n ?_
        refine c_seq ?_
        refine c_seq ?_
        refine c_region ?_
        refine seq_yl hF (wn_none rfl) rfl rfl (yl_move hF rfl rfl) ?_
        clear hF; intro a hF
        refine seq_yl hF (wn_none rfl) rfl rfl (yl_fieldAddr hF rfl rfl (fun w => by kernel_rfl : ∀ w, (Instr.fieldAt 28 (.pointer (some ⟨g368, 0, none⟩)) 0).run Try.prog w = .ok (.pointer (some ⟨g368, 0, none⟩)) w)) ?_
        clear hF; intro a hF
        refine seq_yl hF (wn_none rfl) rfl rfl (yl_load (fun _ h => h ▸ hS) hF rfl rfl 2 rfl ag25 rfl) ?_
        clear hF; intro a hF
        refine seq_yl hF (wn_none rfl) rfl rfl (yl_len hF rfl rfl (fun _ => run_lenRd sl25 (hS.rdRo 6 rfl))) ?_
        clear hF; intro a hF
        refine seq_yl hF (wn_none rfl) rfl rfl (yl_bin hF rfl rfl rfl rfl (fun _ => run_lss)) ?_
        clear hF; intro a hF
        refine wpList_nil ?_
        refine then_n ?_
        refine c_cond hF rfl (fun hc378 => ?_) (fun hc378 => ?_)
        · first | (replace hc378 := of_decide_eq_true hc378) | (replace hc378 := of_decide_eq_false (bnot_t hc378)) | (replace hc378 := bnot_t hc378) | skip
          try (have hc378x := hc378; simp only [okS, okI, okW, okP] at hc378x)
          refine c_region ?_
          refine seq_yl hF (wn_none rfl) rfl rfl (yl_fieldAddr hF rfl rfl (fun w => by kernel_rfl : ∀ w, (Instr.fieldAt 28 (.pointer (some ⟨g368, 0, none⟩)) 0).run Try.prog w = .ok (.pointer (some ⟨g368, 0, none⟩)) w)) ?_
          clear hF; intro a hF
          refine seq_yl hF (wn_none rfl) rfl rfl (yl_load (fun _ h => h ▸ hS) hF rfl rfl 2 rfl ag25 rfl) ?_
          clear hF; intro a hF
          refine seq_yl hF (wn_none rfl) rfl rfl (yl_move hF rfl rfl) ?_
          clear hF; intro a hF
          have hlt_hx379 : k < (P).length := by first | omega | (simp; done) | (simp; omega)
          obtain ⟨ad380, rfl⟩ := rd_some (hS.rdRo 6 rfl) hlt_hx379
          obtain ⟨x379, hx379⟩ := get_some hlt_hx379
          refine seq_yl hF (wn_none rfl) rfl rfl (yl_indexAddr hF rfl rfl rfl (fun _ => run_idx' sl25 sz3 (hS.rdRo 6 rfl) hlt_hx379)) ?_
          clear hF; intro a hF
          refine seq_yl hF (wn_none rfl) rfl rfl (yl_loadAt hF rfl rfl ag3 (fun _ h => rd_cell0 (enc := encI) (by subst h; exact hS.rdRo 6 rfl) encI_len hx379 rfl rfl)) ?_
          clear hF; intro a hF
          refine seq_yl hF (wn_none rfl) rfl rfl (yl_max2 hF rfl rfl rfl) ?_
          clear hF; intro a hF
          refine seq_yl hF (wn_none rfl) rfl rfl (yl_move hF rfl rfl) ?_
          clear hF; intro a hF
          refine seq_yl hF (wn_none rfl) rfl rfl (yl_len hF rfl rfl (fun _ => run_lenRd sl52 (hS.rdRow 0 rfl))) ?_
          clear hF; intro a hF
          refine seq_yl hF (wn_none rfl) rfl rfl (yl_bin hF rfl rfl rfl rfl (fun _ => run_remN (by omega) (by omega))) ?_
          clear hF; intro a hF
          refine seq_yl hF (wn_none rfl) rfl rfl (yl_assign hF rfl rfl) ?_
          clear hF; intro a hF
          refine wpList_nil ?_
          refine then_n ?_
          refine c_seq ?_
          refine c_region ?_
          obtain ⟨ii381, hii381, hii381l⟩ := pick_nat2 x379 (n := ((versC st (L ++ F) (x374))).length) (by omega); rw [hii381] at hF; rw [Int.max_comm] at hii381
          refine seq_yl hF (wn_none rfl) rfl rfl (yl_move hF rfl rfl) ?_
          clear hF; intro a hF
          refine seq_yl hF (wn_none rfl) rfl rfl (yl_move hF rfl rfl) ?_
          clear hF; intro a hF
          have hlt_hx382 : ii381 < ((versC st (L ++ F) (x374))).length := by first | omega | (simp; done) | (simp; omega)
          obtain ⟨ad383, rfl⟩ := rd_some (hS.rdRow 0 rfl) hlt_hx382
          obtain ⟨x382, hx382⟩ := get_some hlt_hx382
          have hb_x382 := (versC_all hC hsx) x382 (List.mem_of_getElem? hx382)
          refine seq_yl hF (wn_none rfl) rfl rfl (yl_indexAddr hF rfl rfl rfl (fun _ => run_idx' sl52 sz9 (hS.rdRow 0 rfl) hlt_hx382)) ?_
          clear hF; intro a hF
          refine seq_yl hF (wn_none rfl) rfl rfl (yl_loadAt hF rfl rfl ag9 (fun _ h => rd_cell0 (enc := encS) (by subst h; exact hS.rdRow 0 rfl) encS_len hx382 rfl rfl)) ?_
          clear hF; intro a hF
          refine seq_yl hF (wn_none rfl) rfl rfl (yl_assign hF rfl rfl) ?_
          clear hF; intro a hF
          refine wpList_nil ?_
          refine then_n ?_
          refine c_seq ?_
          refine c_seq ?_
          refine c_region ?_
          refine seq_yl hF (wn_none rfl) rfl rfl (yl_move hF rfl rfl) ?_
          clear hF; intro a hF
          refine seq_yl hF (wn_none rfl) rfl rfl (yl_bin hF rfl rfl rfl rfl (fun _ => run_geq)) ?_
          clear hF; intro a hF
          refine seq_yl hF (wn_none rfl) rfl rfl (yl_move hF rfl rfl) ?_
          clear hF; intro a hF
          refine fr_split hF (fun hc384 hF => ?_) (fun hc384 hF => ?_)
          · first | (replace hc384 := of_decide_eq_true hc384) | (replace hc384 := of_decide_eq_false (bnot_t hc384)) | (replace hc384 := bnot_t hc384) | skip
            try (have hc384x := hc384; simp only [okS, okI, okW, okP] at hc384x)
            refine seq_yl hF (wn_t hF rfl rfl rfl rfl) rfl rfl (yl_move hF rfl rfl) ?_
            clear hF; intro a hF
            refine seq_yl hF (wn_t hF rfl rfl rfl rfl) rfl rfl (yl_fieldAddr hF rfl rfl (fun w => by kernel_rfl : ∀ w, (Instr.fieldAt 28 (.pointer (some ⟨g368, 0, none⟩)) 1).run Try.prog w = .ok (.pointer (some ⟨g368, 1, none⟩)) w)) ?_
            clear hF; intro a hF
            refine seq_yl hF (wn_t hF rfl rfl rfl rfl) rfl rfl (yl_load (fun _ h => h ▸ hS) hF rfl rfl 2 rfl ag26 rfl) ?_
            clear hF; intro a hF
            refine seq_yl hF (wn_t hF rfl rfl rfl rfl) rfl rfl (yl_len hF rfl rfl (fun _ => run_lenRd sl26 (hS.rdRo 7 rfl))) ?_
            clear hF; intro a hF
            refine seq_yl hF (wn_t hF rfl rfl rfl rfl) rfl rfl (yl_bin hF rfl rfl rfl rfl (fun _ => run_lss)) ?_
            clear hF; intro a hF
            refine seq_yl hF (wn_none rfl) rfl rfl (yl_pick (u := _) (v := undef) hF rfl rfl (fun _ => rfl) (fun h => by cases h)) ?_
            clear hF; intro a hF
            refine seq_yl hF (wn_none rfl) rfl rfl (yl_move hF rfl rfl) ?_
            clear hF; intro a hF
            refine fr_split hF (fun hc385 hF => ?_) (fun hc385 hF => ?_)
            · first | (replace hc385 := of_decide_eq_true hc385) | (replace hc385 := of_decide_eq_false (bnot_t hc385)) | (replace hc385 := bnot_t hc385) | skip
              try (have hc385x := hc385; simp only [okS, okI, okW, okP] at hc385x)
              refine seq_yl hF (wn_t hF rfl rfl rfl rfl) rfl rfl (yl_fieldAddr hF rfl rfl (fun w => by kernel_rfl : ∀ w, (Instr.fieldAt 28 (.pointer (some ⟨g368, 0, none⟩)) 1).run Try.prog w = .ok (.pointer (some ⟨g368, 1, none⟩)) w)) ?_
              clear hF; intro a hF
              refine seq_yl hF (wn_t hF rfl rfl rfl rfl) rfl rfl (yl_load (fun _ h => h ▸ hS) hF rfl rfl 2 rfl ag26 rfl) ?_
              clear hF; intro a hF
              refine seq_yl hF (wn_t hF rfl rfl rfl rfl) rfl rfl (yl_move hF rfl rfl) ?_
              clear hF; intro a hF
              have hlt_hx386 : k < (T).length := by first | omega | (simp; done) | (simp; omega)
              obtain ⟨ad387, rfl⟩ := rd_some (hS.rdRo 7 rfl) hlt_hx386
              obtain ⟨x386, hx386⟩ := get_some hlt_hx386
              refine seq_yl hF (wn_t hF rfl rfl rfl rfl) rfl rfl (yl_indexAddr hF rfl rfl rfl (fun _ => run_idx' sl26 sz4 (hS.rdRo 7 rfl) hlt_hx386)) ?_
              clear hF; intro a hF
              refine seq_yl hF (wn_t hF rfl rfl rfl rfl) rfl rfl (yl_loadAt hF rfl rfl ag4 (fun _ h => rd_cell0 (enc := encB) (by subst h; exact hS.rdRo 7 rfl) encB_len hx386 rfl rfl)) ?_
              clear hF; intro a hF
              refine seq_yl hF (wn_none rfl) rfl rfl (yl_pick (u := _) (v := undef) hF rfl rfl (fun _ => rfl) (fun h => by cases h)) ?_
              clear hF; intro a hF
              refine wpList_nil ?_
              refine then_n ?_
              refine c_cond hF rfl (fun hc388 => ?_) (fun hc388 => ?_)
              · first | (replace hc388 := of_decide_eq_true hc388) | (replace hc388 := of_decide_eq_false (bnot_t hc388)) | (replace hc388 := bnot_t hc388) | skip
                try (have hc388x := hc388; simp only [okS, okI, okW, okP] at hc388x)
                refine ha_startS hS [0] 11 (by kernel_rfl) ?_; clear hS; intro w hS
                have hSS := hS.sub [0] (by decide) rfl (by simp)
                refine ha_y 0 hF rfl rfl rfl (wn_none rfl) (.inr hSS) (yl_move hF rfl rfl) ?_
                clear hF; intro a hF
                refine ha_y 1 hF rfl rfl rfl (wn_none rfl) (.inr hSS) (yl_move hF rfl rfl) ?_
                clear hF; intro a hF
                refine ha_y 2 hF rfl rfl rfl (wn_none rfl) (.inr hSS) (yl_indexAddr hF rfl rfl rfl (fun _ => run_idx' sl52 sz9 (hS.rdRow 0 rfl) hlt_hx382)) ?_
                clear hF; intro a hF
                refine ha_y 4 hF rfl rfl rfl (wn_none rfl) (.inr hSS) (yl_move hF rfl rfl) ?_
                clear hF; intro a hF
                refine ha_y 5 hF rfl rfl rfl (wn_none rfl) (.inr hSS) (yl_move hF rfl rfl) ?_
                clear hF; intro a hF
                refine ha_y 6 hF rfl rfl rfl (wn_none rfl) (.inr hSS) (yl_bin hF rfl rfl rfl rfl (fun _ => run_dec (c := 1) (by omega) (by omega))) ?_
                clear hF; intro a hF
                have hlt_hx389 : (ii381 - 1) < ((versC st (L ++ F) (x374))).length := by first | omega | (simp; done) | (simp; omega)
                obtain ⟨x389, hx389⟩ := get_some hlt_hx389
                have hb_x389 := (versC_all hC hsx) x389 (List.mem_of_getElem? hx389)
                refine ha_y 7 hF rfl rfl rfl (wn_none rfl) (.inr hSS) (yl_indexAddr hF rfl rfl rfl (fun _ => run_idx' sl52 sz9 (hS.rdRow 0 rfl) hlt_hx389)) ?_
                clear hF; intro a hF
                refine ha_l 3 hF rfl rfl rfl (wn_none rfl) hSS (yl_loadAt hF rfl rfl ag9 (fun _ h => rd_cell0 (enc := encS) (Sat.rdRow h 0 rfl) encS_len hx382 rfl rfl)) ?_
                clear hF; intro a hF
                refine ha_l 8 hF rfl rfl rfl (wn_none rfl) hSS (yl_loadAt hF rfl rfl ag9 (fun _ h => rd_cell0 (enc := encS) (Sat.rdRow h 0 rfl) encS_len hx389 rfl rfl)) ?_
                clear hF; intro a hF
                refine ha_one 9 (by kernel_rfl) rfl (wn_none rfl) (wp_call (vs := [_, _]) hF rfl rfl rfl rfl cf33 (torn2_any x382 x389 _ (by omega) (by omega)) ?_)
                clear hF; rintro _ w ⟨rfl, hS1⟩ a hF
                replace hS := hS.callB hS1 rfl; clear hS1
                have htz390 := torn_size (a := x382) (b := x389) (by omega) (by omega)
                replace hSS := hS.sub [0] (by decide) rfl (by simp)
                refine ⟨.inr hSS, ?_⟩
                refine ha_y 10 hF rfl rfl rfl (wn_none rfl) (.inr hSS) (yl_assign hF rfl rfl) ?_
                clear hF; intro a hF
                refine ha_done (by kernel_rfl) ?_ _
                refine then_n ?_
                refine c_region ?_
                refine seq_yl hF (wn_none rfl) rfl rfl (yl_move hF rfl rfl) ?_
                clear hF; intro a hF
                refine seq_yl hF (wn_none rfl) rfl rfl (yl_move hF rfl rfl) ?_
                clear hF; intro a hF
                refine seq_yl hF (wn_none rfl) rfl rfl (yl_move hF rfl rfl) ?_
                clear hF; intro a hF
                refine seq_yl hF (wn_none rfl) rfl rfl (yl_indexAddr hF rfl rfl rfl (fun _ => run_idx' sl25 sz3 (hS.rdRow 3 rfl) hlt_hx374)) ?_
                clear hF; intro a hF
                refine seq_yl hF (wn_none rfl) rfl rfl (yl_loadAt hF rfl rfl ag3 (fun _ h => rd_cell0 (enc := encI) (by subst h; exact hS.rdRow 3 rfl) encI_len hx374 rfl rfl)) ?_
                clear hF; intro a hF
                refine seq_yl hF (wn_none rfl) rfl rfl (yl_move hF rfl rfl) ?_
                clear hF; intro a hF
                refine seq_wp (wn_none rfl) (wp_call (vs := [_, _, _]) hF rfl rfl rfl rfl cf23 (imWrite2_any im (x374) (tornF x382 x389) _ (by omega) (by omega)) ?_)
                clear hF; rintro _ w ⟨xs391, e392, rfl, hsp393, hS1⟩ a hF
                replace hS := hS.callB hS1 rfl; clear hS1
                have hsp393z := fun h9 : okW ((im).size : Int) (x374) (((tornF x382 x389)).size : Int) => wim_size (im := im) (s := (x374)) (x := (tornF x382 x389)) h9
                obtain ⟨hk394, rfl, rfl⟩ := hsp393.resolve_right (fun h9 => h9.1 (okW_of (by rw [hiz]; exact hsx) (by first | omega | (rw [hcz9]))))
                try (have hk394x := hk394; simp only [okS, okI, okW, okP] at hk394x)
                refine seq_yl hF (wn_none rfl) rfl rfl (yl_move hF rfl rfl) ?_
                clear hF; intro a hF
                refine seq_yl hF (wn_none rfl) rfl rfl (yl_extract hF rfl rfl rfl) ?_
                clear hF; intro a hF
                refine seq_yl hF (wn_none rfl) rfl rfl (yl_extract hF rfl rfl rfl) ?_
                clear hF; intro a hF
                refine seq_yl hF (wn_none rfl) rfl rfl (yl_assign hF rfl rfl) ?_
                clear hF; intro a hF
                refine wpList_nil ?_
                refine inb_n ?_
                refine then_n ?_
                refine c_region ?_
                refine seq_yl hF (wn_none rfl) rfl rfl (yl_move hF rfl rfl) ?_
                clear hF; intro a hF
                refine seq_yl hF (wn_none rfl) rfl rfl (yl_bin hF rfl rfl rfl rfl (fun _ => run_inc (by omega))) ?_
                clear hF; intro a hF
                refine seq_yl hF (wn_none rfl) rfl rfl (yl_assign hF rfl rfl) ?_
                clear hF; intro a hF
                refine wpList_nil ?_
                refine then_n ?_
                have hcd : (tornF x382 x389) = chS st (L ++ F) P T x374 := (chS_torn (s := x374) (by omega) hsq hx379 hii381 (by omega) (hx386.trans (congrArg some (by assumption))) hx382 hx389)
                have hcz : (((tornF x382 x389)).size : Int) = 8 := by rw [hcd]; exact chS_size hC hsx
                exact ⟨_, (by omega), k + 1, _, rfl, ⟨by omega, imQ_step him hx374 hsx hcz hcd⟩, hF.to [1, 3, 5, 7, 8, 9] rfl, (hS.sub [1, 2, 3, 4, 5, 6, 7] (by decide) (by first | rfl | simp) (by simp))⟩
              · first | (replace hc388 := of_decide_eq_false hc388) | (replace hc388 := of_decide_eq_true (bnot_f hc388)) | (replace hc388 := bnot_f hc388) | skip
                try (have hc388x := hc388; simp only [okS, okI, okW, okP] at hc388x)
                refine wp_skip ?_
                refine then_n ?_
                refine c_region ?_
                refine seq_yl hF (wn_none rfl) rfl rfl (yl_move hF rfl rfl) ?_
                clear hF; intro a hF
                refine seq_yl hF (wn_none rfl) rfl rfl (yl_move hF rfl rfl) ?_
                clear hF; intro a hF
                refine seq_yl hF (wn_none rfl) rfl rfl (yl_move hF rfl rfl) ?_
                clear hF; intro a hF
                refine seq_yl hF (wn_none rfl) rfl rfl (yl_indexAddr hF rfl rfl rfl (fun _ => run_idx' sl25 sz3 (hS.rdRow 3 rfl) hlt_hx374)) ?_
                clear hF; intro a hF
                refine seq_yl hF (wn_none rfl) rfl rfl (yl_loadAt hF rfl rfl ag3 (fun _ h => rd_cell0 (enc := encI) (by subst h; exact hS.rdRow 3 rfl) encI_len hx374 rfl rfl)) ?_
                clear hF; intro a hF
                refine seq_yl hF (wn_none rfl) rfl rfl (yl_move hF rfl rfl) ?_
                clear hF; intro a hF
                refine seq_wp (wn_none rfl) (wp_call (vs := [_, _, _]) hF rfl rfl rfl rfl cf23 (imWrite2_any im (x374) x382 _ (by omega) (by omega)) ?_)
                clear hF; rintro _ w ⟨xs395, e396, rfl, hsp397, hS1⟩ a hF
                replace hS := hS.callB hS1 rfl; clear hS1
                have hsp397z := fun h9 : okW ((im).size : Int) (x374) ((x382).size : Int) => wim_size (im := im) (s := (x374)) (x := x382) h9
                obtain ⟨hk398, rfl, rfl⟩ := hsp397.resolve_right (fun h9 => h9.1 (okW_of (by rw [hiz]; exact hsx) (by first | omega | (rw [hcz9]))))
                try (have hk398x := hk398; simp only [okS, okI, okW, okP] at hk398x)
                refine seq_yl hF (wn_none rfl) rfl rfl (yl_move hF rfl rfl) ?_
                clear hF; intro a hF
                refine seq_yl hF (wn_none rfl) rfl rfl (yl_extract hF rfl rfl rfl) ?_
                clear hF; intro a hF
                refine seq_yl hF (wn_none rfl) rfl rfl (yl_extract hF rfl rfl rfl) ?_
                clear hF; intro a hF
                refine seq_yl hF (wn_none rfl) rfl rfl (yl_assign hF rfl rfl) ?_
                clear hF; intro a hF
                refine wpList_nil ?_
                refine inb_n ?_
                refine then_n ?_
                refine c_region ?_
                refine seq_yl hF (wn_none rfl) rfl rfl (yl_move hF rfl rfl) ?_
                clear hF; intro a hF
                refine seq_yl hF (wn_none rfl) rfl rfl (yl_bin hF rfl rfl rfl rfl (fun _ => run_inc (by omega))) ?_
                clear hF; intro a hF
                refine seq_yl hF (wn_none rfl) rfl rfl (yl_assign hF rfl rfl) ?_
                clear hF; intro a hF
                refine wpList_nil ?_
                refine then_n ?_
                have hcd : x382 = chS st (L ++ F) P T x374 := (chS_plain (s := x374) (by omega) hsq hx379 hii381 hx382 (by rintro ⟨h8, h9⟩; first | omega | (rw [List.getElem?_eq_none (by omega)] at h9; cases h9) | exact absurd ((Option.some.inj (hx386.symm.trans h9)).symm.trans (by assumption)) (by decide)))
                have hcz : ((x382).size : Int) = 8 := by rw [hcd]; exact chS_size hC hsx
                exact ⟨_, (by omega), k + 1, _, rfl, ⟨by omega, imQ_step him hx374 hsx hcz hcd⟩, hF.to [1, 3, 5, 7, 8, 9] rfl, (hS.sub [1, 2, 3, 4, 5, 6, 7] (by decide) (by first | rfl | simp) (by simp))⟩
            · first | (replace hc385 := of_decide_eq_false hc385) | (replace hc385 := of_decide_eq_true (bnot_f hc385)) | (replace hc385 := bnot_f hc385) | skip
              try (have hc385x := hc385; simp only [okS, okI, okW, okP] at hc385x)
              refine seq_skip hF (wn_f hF rfl rfl rfl rfl) rfl rfl ?_
              clear hF; intro a hF
              refine seq_skip hF (wn_f hF rfl rfl rfl rfl) rfl rfl ?_
              clear hF; intro a hF
              refine seq_skip hF (wn_f hF rfl rfl rfl rfl) rfl rfl ?_
              clear hF; intro a hF
              refine seq_skip hF (wn_f hF rfl rfl rfl rfl) rfl rfl ?_
              clear hF; intro a hF
              refine seq_skip hF (wn_f hF rfl rfl rfl rfl) rfl rfl ?_
              clear hF; intro a hF
              refine seq_yl hF (wn_none rfl) rfl rfl (yl_pick (u := _) (v := undef) hF rfl rfl (fun h => by cases h) (fun _ => rfl)) ?_
              clear hF; intro a hF
              refine wpList_nil ?_
              refine then_n ?_
              refine c_cond_f hF rfl ?_
              refine wp_skip ?_
              refine then_n ?_
              refine c_region ?_
              refine seq_yl hF (wn_none rfl) rfl rfl (yl_move hF rfl rfl) ?_
              clear hF; intro a hF
              refine seq_yl hF (wn_none rfl) rfl rfl (yl_move hF rfl rfl) ?_
              clear hF; intro a hF
              refine seq_yl hF (wn_none rfl) rfl rfl (yl_move hF rfl rfl) ?_
              clear hF; intro a hF
              refine seq_yl hF (wn_none rfl) rfl rfl (yl_indexAddr hF rfl rfl rfl (fun _ => run_idx' sl25 sz3 (hS.rdRow 3 rfl) hlt_hx374)) ?_
              clear hF; intro a hF
              refine seq_yl hF (wn_none rfl) rfl rfl (yl_loadAt hF rfl rfl ag3 (fun _ h => rd_cell0 (enc := encI) (by subst h; exact hS.rdRow 3 rfl) encI_len hx374 rfl rfl)) ?_
              clear hF; intro a hF
              refine seq_yl hF (wn_none rfl) rfl rfl (yl_move hF rfl rfl) ?_
              clear hF; intro a hF
              refine seq_wp (wn_none rfl) (wp_call (vs := [_, _, _]) hF rfl rfl rfl rfl cf23 (imWrite2_any im (x374) x382 _ (by omega) (by omega)) ?_)
              clear hF; rintro _ w ⟨xs399, e400, rfl, hsp401, hS1⟩ a hF
              replace hS := hS.callB hS1 rfl; clear hS1
              have hsp401z := fun h9 : okW ((im).size : Int) (x374) ((x382).size : Int) => wim_size (im := im) (s := (x374)) (x := x382) h9
              obtain ⟨hk402, rfl, rfl⟩ := hsp401.resolve_right (fun h9 => h9.1 (okW_of (by rw [hiz]; exact hsx) (by first | omega | (rw [hcz9]))))
              try (have hk402x := hk402; simp only [okS, okI, okW, okP] at hk402x)
              refine seq_yl hF (wn_none rfl) rfl rfl (yl_move hF rfl rfl) ?_
              clear hF; intro a hF
              refine seq_yl hF (wn_none rfl) rfl rfl (yl_extract hF rfl rfl rfl) ?_
              clear hF; intro a hF
              refine seq_yl hF (wn_none rfl) rfl rfl (yl_extract hF rfl rfl rfl) ?_
              clear hF; intro a hF
              refine seq_yl hF (wn_none rfl) rfl rfl (yl_assign hF rfl rfl) ?_
              clear hF; intro a hF
              refine wpList_nil ?_
              refine inb_n ?_
              refine then_n ?_
              refine c_region ?_
              refine seq_yl hF (wn_none rfl) rfl rfl (yl_move hF rfl rfl) ?_
              clear hF; intro a hF
              refine seq_yl hF (wn_none rfl) rfl rfl (yl_bin hF rfl rfl rfl rfl (fun _ => run_inc (by omega))) ?_
              clear hF; intro a hF
              refine seq_yl hF (wn_none rfl) rfl rfl (yl_assign hF rfl rfl) ?_
              clear hF; intro a hF
              refine wpList_nil ?_
              refine then_n ?_
              have hcd : x382 = chS st (L ++ F) P T x374 := (chS_plain (s := x374) (by omega) hsq hx379 hii381 hx382 (by rintro ⟨h8, h9⟩; first | omega | (rw [List.getElem?_eq_none (by omega)] at h9; cases h9)))
              have hcz : ((x382).size : Int) = 8 := by rw [hcd]; exact chS_size hC hsx
              exact ⟨_, (by omega), k + 1, _, rfl, ⟨by omega, imQ_step him hx374 hsx hcz hcd⟩, hF.to [1, 3, 5, 7, 8, 9] rfl, (hS.sub [1, 2, 3, 4, 5, 6, 7] (by decide) (by first | rfl | simp) (by simp))⟩
          · first | (replace hc384 := of_decide_eq_false hc384) | (replace hc384 := of_decide_eq_true (bnot_f hc384)) | (replace hc384 := bnot_f hc384) | skip
            try (have hc384x := hc384; simp only [okS, okI, okW, okP] at hc384x)
            refine seq_skip hF (wn_f hF rfl rfl rfl rfl) rfl rfl ?_
            clear hF; intro a hF
            refine seq_skip hF (wn_f hF rfl rfl rfl rfl) rfl rfl ?_
            clear hF; intro a hF
            refine seq_skip hF (wn_f hF rfl rfl rfl rfl) rfl rfl ?_
            clear hF; intro a hF
            refine seq_skip hF (wn_f hF rfl rfl rfl rfl) rfl rfl ?_
            clear hF; intro a hF
            refine seq_skip hF (wn_f hF rfl rfl rfl rfl) rfl rfl ?_
            clear hF; intro a hF
            refine seq_yl hF (wn_none rfl) rfl rfl (yl_pick (u := _) (v := undef) hF rfl rfl (fun h => by cases h) (fun _ => rfl)) ?_
            clear hF; intro a hF
            refine seq_yl hF (wn_none rfl) rfl rfl (yl_move hF rfl rfl) ?_
            clear hF; intro a hF
            refine seq_skip hF (wn_f hF rfl rfl rfl rfl) rfl rfl ?_
            clear hF; intro a hF
            refine seq_skip hF (wn_f hF rfl rfl rfl rfl) rfl rfl ?_
            clear hF; intro a hF
            refine seq_skip hF (wn_f hF rfl rfl rfl rfl) rfl rfl ?_
            clear hF; intro a hF
            refine seq_skip hF (wn_f hF rfl rfl rfl rfl) rfl rfl ?_
            clear hF; intro a hF
            refine seq_skip hF (wn_f hF rfl rfl rfl rfl) rfl rfl ?_
            clear hF; intro a hF
            refine seq_yl hF (wn_none rfl) rfl rfl (yl_pick (u := _) (v := undef) hF rfl rfl (fun h => by cases h) (fun _ => rfl)) ?_
            clear hF; intro a hF
            refine wpList_nil ?_
            refine then_n ?_
            refine c_cond_f hF rfl ?_
            refine wp_skip ?_
            refine then_n ?_
            refine c_region ?_
            refine seq_yl hF (wn_none rfl) rfl rfl (yl_move hF rfl rfl) ?_
            clear hF; intro a hF
            refine seq_yl hF (wn_none rfl) rfl rfl (yl_move hF rfl rfl) ?_
            clear hF; intro a hF
            refine seq_yl hF (wn_none rfl) rfl rfl (yl_move hF rfl rfl) ?_
            clear hF; intro a hF
            refine seq_yl hF (wn_none rfl) rfl rfl (yl_indexAddr hF rfl rfl rfl (fun _ => run_idx' sl25 sz3 (hS.rdRow 3 rfl) hlt_hx374)) ?_
            clear hF; intro a hF
            refine seq_yl hF (wn_none rfl) rfl rfl (yl_loadAt hF rfl rfl ag3 (fun _ h => rd_cell0 (enc := encI) (by subst h; exact hS.rdRow 3 rfl) encI_len hx374 rfl rfl)) ?_
            clear hF; intro a hF
            refine seq_yl hF (wn_none rfl) rfl rfl (yl_move hF rfl rfl) ?_
            clear hF; intro a hF
            refine seq_wp (wn_none rfl) (wp_call (vs := [_, _, _]) hF rfl rfl rfl rfl cf23 (imWrite2_any im (x374) x382 _ (by omega) (by omega)) ?_)
            clear hF; rintro _ w ⟨xs403, e404, rfl, hsp405, hS1⟩ a hF
            replace hS := hS.callB hS1 rfl; clear hS1
            have hsp405z := fun h9 : okW ((im).size : Int) (x374) ((x382).size : Int) => wim_size (im := im) (s := (x374)) (x := x382) h9
            obtain ⟨hk406, rfl, rfl⟩ := hsp405.resolve_right (fun h9 => h9.1 (okW_of (by rw [hiz]; exact hsx) (by first | omega | (rw [hcz9]))))
            try (have hk406x := hk406; simp only [okS, okI, okW, okP] at hk406x)
            refine seq_yl hF (wn_none rfl) rfl rfl (yl_move hF rfl rfl) ?_
            clear hF; intro a hF
            refine seq_yl hF (wn_none rfl) rfl rfl (yl_extract hF rfl rfl rfl) ?_
            clear hF; intro a hF
            refine seq_yl hF (wn_none rfl) rfl rfl (yl_extract hF rfl rfl rfl) ?_
            clear hF; intro a hF
            refine seq_yl hF (wn_none rfl) rfl rfl (yl_assign hF rfl rfl) ?_
            clear hF; intro a hF
            refine wpList_nil ?_
            refine inb_n ?_
            refine then_n ?_
            refine c_region ?_
            refine seq_yl hF (wn_none rfl) rfl rfl (yl_move hF rfl rfl) ?_
            clear hF; intro a hF
            refine seq_yl hF (wn_none rfl) rfl rfl (yl_bin hF rfl rfl rfl rfl (fun _ => run_inc (by omega))) ?_
            clear hF; intro a hF
            refine seq_yl hF (wn_none rfl) rfl rfl (yl_assign hF rfl rfl) ?_
            clear hF; intro a hF
            refine wpList_nil ?_
            refine then_n ?_
            have hcd : x382 = chS st (L ++ F) P T x374 := (chS_plain (s := x374) (by omega) hsq hx379 hii381 hx382 (by rintro ⟨h8, h9⟩; first | omega | (rw [List.getElem?_eq_none (by omega)] at h9; cases h9)))
            have hcz : ((x382).size : Int) = 8 := by rw [hcd]; exact chS_size hC hsx
            exact ⟨_, (by omega), k + 1, _, rfl, ⟨by omega, imQ_step him hx374 hsx hcz hcd⟩, hF.to [1, 3, 5, 7, 8, 9] rfl, (hS.sub [1, 2, 3, 4, 5, 6, 7] (by decide) (by first | rfl | simp) (by simp))⟩
        · first | (replace hc378 := of_decide_eq_false hc378) | (replace hc378 := of_decide_eq_true (bnot_f hc378)) | (replace hc378 := bnot_f hc378) | skip
          try (have hc378x := hc378; simp only [okS, okI, okW, okP] at hc378x)
          refine wp_skip ?_
          refine then_n ?_
          refine c_seq ?_
          refine c_region ?_
          refine seq_yl hF (wn_none rfl) rfl rfl (yl_move hF rfl rfl) ?_
          clear hF; intro a hF
          refine seq_yl hF (wn_none rfl) rfl rfl (yl_move hF rfl rfl) ?_
          clear hF; intro a hF
          have hlt_hx407 : 0 < ((versC st (L ++ F) (x374))).length := by first | omega | (simp; done) | (simp; omega)
          obtain ⟨ad408, rfl⟩ := rd_some (hS.rdRow 0 rfl) hlt_hx407
          obtain ⟨x407, hx407⟩ := get_some hlt_hx407
          have hb_x407 := (versC_all hC hsx) x407 (List.mem_of_getElem? hx407)
          refine seq_yl hF (wn_none rfl) rfl rfl (yl_indexAddr hF rfl rfl rfl (fun _ => run_idx' (k := 0) sl52 sz9 (hS.rdRow 0 rfl) hlt_hx407)) ?_
          clear hF; intro a hF
          refine seq_yl hF (wn_none rfl) rfl rfl (yl_loadAt hF rfl rfl ag9 (fun _ h => rd_cell0 (enc := encS) (by subst h; exact hS.rdRow 0 rfl) encS_len hx407 rfl rfl)) ?_
          clear hF; intro a hF
          refine seq_yl hF (wn_none rfl) rfl rfl (yl_assign hF rfl rfl) ?_
          clear hF; intro a hF
          refine wpList_nil ?_
          refine then_n ?_
          refine c_seq ?_
          refine c_seq ?_
          refine c_region ?_
          refine seq_yl hF (wn_none rfl) rfl rfl (yl_move hF rfl rfl) ?_
          clear hF; intro a hF
          refine seq_yl hF (wn_none rfl) rfl rfl (yl_bin hF rfl rfl rfl rfl (fun _ => run_geq)) ?_
          clear hF; intro a hF
          replace hF := fr_set (b' := false) hF (by decide)
          refine seq_yl hF (wn_none rfl) rfl rfl (yl_move hF rfl rfl) ?_
          clear hF; intro a hF
          refine seq_skip hF (wn_f hF rfl rfl rfl rfl) rfl rfl ?_
          clear hF; intro a hF
          refine seq_skip hF (wn_f hF rfl rfl rfl rfl) rfl rfl ?_
          clear hF; intro a hF
          refine seq_skip hF (wn_f hF rfl rfl rfl rfl) rfl rfl ?_
          clear hF; intro a hF
          refine seq_skip hF (wn_f hF rfl rfl rfl rfl) rfl rfl ?_
          clear hF; intro a hF
          refine seq_skip hF (wn_f hF rfl rfl rfl rfl) rfl rfl ?_
          clear hF; intro a hF
          refine seq_yl hF (wn_none rfl) rfl rfl (yl_pick (u := _) (v := undef) hF rfl rfl (fun h => by cases h) (fun _ => rfl)) ?_
          clear hF; intro a hF
          refine seq_yl hF (wn_none rfl) rfl rfl (yl_move hF rfl rfl) ?_
          clear hF; intro a hF
          refine seq_skip hF (wn_f hF rfl rfl rfl rfl) rfl rfl ?_
          clear hF; intro a hF
          refine seq_skip hF (wn_f hF rfl rfl rfl rfl) rfl rfl ?_
          clear hF; intro a hF
          refine seq_skip hF (wn_f hF rfl rfl rfl rfl) rfl rfl ?_
          clear hF; intro a hF
          refine seq_skip hF (wn_f hF rfl rfl rfl rfl) rfl rfl ?_
          clear hF; intro a hF
          refine seq_skip hF (wn_f hF rfl rfl rfl rfl) rfl rfl ?_
          clear hF; intro a hF
          refine seq_yl hF (wn_none rfl) rfl rfl (yl_pick (u := _) (v := undef) hF rfl rfl (fun h => by cases h) (fun _ => rfl)) ?_
          clear hF; intro a hF
          refine wpList_nil ?_
          refine then_n ?_
          refine c_cond_f hF rfl ?_
          refine wp_skip ?_
          refine then_n ?_
          refine c_region ?_
          refine seq_yl hF (wn_none rfl) rfl rfl (yl_move hF rfl rfl) ?_
          clear hF; intro a hF
          refine seq_yl hF (wn_none rfl) rfl rfl (yl_move hF rfl rfl) ?_
          clear hF; intro a hF
          refine seq_yl hF (wn_none rfl) rfl rfl (yl_move hF rfl rfl) ?_
          clear hF; intro a hF
          refine seq_yl hF (wn_none rfl) rfl rfl (yl_indexAddr hF rfl rfl rfl (fun _ => run_idx' sl25 sz3 (hS.rdRow 3 rfl) hlt_hx374)) ?_
          clear hF; intro a hF
          refine seq_yl hF (wn_none rfl) rfl rfl (yl_loadAt hF rfl rfl ag3 (fun _ h => rd_cell0 (enc := encI) (by subst h; exact hS.rdRow 3 rfl) encI_len hx374 rfl rfl)) ?_
          clear hF; intro a hF
          refine seq_yl hF (wn_none rfl) rfl rfl (yl_move hF rfl rfl) ?_
          clear hF; intro a hF
          refine seq_wp (wn_none rfl) (wp_call (vs := [_, _, _]) hF rfl rfl rfl rfl cf23 (imWrite2_any im (x374) x407 _ (by omega) (by omega)) ?_)
          clear hF; rintro _ w ⟨xs409, e410, rfl, hsp411, hS1⟩ a hF
          replace hS := hS.callB hS1 rfl; clear hS1
          have hsp411z := fun h9 : okW ((im).size : Int) (x374) ((x407).size : Int) => wim_size (im := im) (s := (x374)) (x := x407) h9
          obtain ⟨hk412, rfl, rfl⟩ := hsp411.resolve_right (fun h9 => h9.1 (okW_of (by rw [hiz]; exact hsx) (by first | omega | (rw [hcz9]))))
          try (have hk412x := hk412; simp only [okS, okI, okW, okP] at hk412x)
          refine seq_yl hF (wn_none rfl) rfl rfl (yl_move hF rfl rfl) ?_
          clear hF; intro a hF
          refine seq_yl hF (wn_none rfl) rfl rfl (yl_extract hF rfl rfl rfl) ?_
          clear hF; intro a hF
          refine seq_yl hF (wn_none rfl) rfl rfl (yl_extract hF rfl rfl rfl) ?_
          clear hF; intro a hF
          refine seq_yl hF (wn_none rfl) rfl rfl (yl_assign hF rfl rfl) ?_
          clear hF; intro a hF
          refine wpList_nil ?_
          refine inb_n ?_
          refine then_n ?_
          refine c_region ?_
          refine seq_yl hF (wn_none rfl) rfl rfl (yl_move hF rfl rfl) ?_
          clear hF; intro a hF
          refine seq_yl hF (wn_none rfl) rfl rfl (yl_bin hF rfl rfl rfl rfl (fun _ => run_inc (by omega))) ?_
          clear hF; intro a hF
          refine seq_yl hF (wn_none rfl) rfl rfl (yl_assign hF rfl rfl) ?_
          clear hF; intro a hF
          refine wpList_nil ?_
          refine then_n ?_
          have hcd : x407 = chS st (L ++ F) P T x374 := (chS_none (s := x374) (by omega) hsq (by omega) hx407)
          have hcz : ((x407).size : Int) = 8 := by rw [hcd]; exact chS_size hC hsx
          exact ⟨_, (by omega), k + 1, _, rfl, ⟨by omega, imQ_step him hx374 hsx hcz hcd⟩, hF.to [1, 3, 5, 7, 8, 9] rfl, (hS.sub [1, 2, 3, 4, 5, 6, 7] (by decide) (by first | rfl | simp) (by simp))⟩
      · first | (replace hc373 := of_decide_eq_false hc373) | (replace hc373 := of_decide_eq_true (bnot_f hc373)) | (replace hc373 := bnot_f hc373) | skip
        try (have hc373x := hc373; simp only [okS, okI, okW, okP] at hc373x)
        refine wp_exit ?_
        refine then_x ?_
        refine then_x ?_
        refine inb_x ?_
        refine then_n ?_
        refine c_seq ?_
        refine c_region ?_
        refine seq_yl hF (wn_none rfl) rfl rfl (yl_move hF rfl rfl) ?_
        clear hF; intro a hF
        refine seq_yl hF (wn_none rfl) rfl rfl (yl_assign hF rfl rfl) ?_
        clear hF; intro a hF
        refine wpList_nil ?_
        refine then_n ?_
        refine wp_ret ?_
        refine ret_t hF rfl rfl ?_
        have hrd : chooseF st L F rm P T = im := (imQ_end hC him (by omega)).symm
        rw [hrd]; exact ⟨_, rfl, rfl, (hS.sub [] (by decide) (by first | rfl | simp) (by simp))⟩

end Go.Proofs.Ytlhcpeolkkadbaa

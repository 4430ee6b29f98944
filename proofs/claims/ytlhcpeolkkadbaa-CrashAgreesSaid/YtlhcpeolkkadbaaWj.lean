/- walks, printed by wip/gen -/
import Derived.Test.YtlhcpeolkkadbaaWi
import Derived.Test.YtlhcpeolkkadbaaWB
namespace Go.Proofs.Ytlhcpeolkkadbaa
open Go.RowKit
set_option linter.unusedVariables false
set_option linter.unusedSimpArgs false

set_option maxHeartbeats 1000000 in
set_option maxRecDepth 100000 in
theorem choose_any (st : ByteArray) (lv : Value) (L : List E59) (rm : Int) (fv : Value) (F : List E59) (pv : Value) (P : List Int) (tv : Value) (T : List Bool) (w0 : World) (hv : Rd w0 2 lv (L).length (cells enc59 (L))) (hz : (st.size : Int) ≤ 9223372036854775807) (hL : L.length ≤ 1000000) (hf : Rd w0 2 fv (F).length (cells enc59 (F))) (hF0 : F.length ≤ 1000000) (hp : Rd w0 1 pv (P).length (cells encI (P))) (ht : Rd w0 1 tv (T).length (cells encB (T))) (hP : P.length ≤ 1000000) (hT : T.length ≤ 1000000) :
    Fn Try.prog 15 #[.agg #[.string st, lv, .int .i64 rm], fv, .agg #[pv, tv]] w0 (fun v w' => v = .string (chooseF st L F rm P T) ∧ Sat w0 w' []) := by
  obtain ⟨Alv, clv, rfl⟩ := Rd.form hv
  obtain ⟨Afv, cfv, rfl⟩ := Rd.form hf
  obtain ⟨Apv, cpv, rfl⟩ := Rd.form hp
  obtain ⟨Atv, ctv, rfl⟩ := Rd.form ht
  refine c_enter (N := 75) (l := [_, _, _]) Try.func15 rfl rfl (fun a w hF hS => ?_)
  replace hS := hS.addRo ht
  replace hS := hS.addRo hp
  replace hS := hS.addRo hf
  replace hS := hS.addRo hv
  refine c_seq ?_
  refine c_region ?_
  refine seq_wp (wn_none rfl) (wp_box (cs := #[_, _, _]) hF hS rfl rfl rfl rfl rfl ?_)
  clear hF hS; intro a w g337 hF hS
  refine seq_wp (wn_none rfl) (wp_box (cs := #[_, _]) hF hS rfl rfl rfl rfl rfl ?_)
  clear hF hS; intro a w g338 hF hS
  refine seq_yl hF (wn_none rfl) rfl rfl (yl_assign hF rfl rfl) ?_
  clear hF; intro a hF
  refine wpList_nil ?_
  refine then_n ?_
  refine c_seq ?_
  refine c_seq ?_
  refine c_region ?_
  refine seq_yl hF (wn_none rfl) rfl rfl (yl_loadK (rs := [_, _, _]) (fun _ h => h ▸ hS) hF rfl rfl 1 rfl ag24 sz24 rfl rfl) ?_
  clear hF; intro a hF
  refine seq_yl hF (wn_none rfl) rfl rfl (yl_move hF rfl rfl) ?_
  clear hF; intro a hF
  refine seq_wp (wn_none rfl) (wp_call (vs := [_, _]) hF rfl rfl rfl rfl cf34 (spec_any st _ L (rm) _ F _ (hS.rdRo 2 rfl) (by first | omega | (simp; done)) (by first | omega | (simp; done)) (hS.rdRo 3 rfl) (by first | omega | (simp; done))) ?_)
  clear hF; rintro _ w ⟨rfl, hS1⟩ a hF
  replace hS := hS.callB hS1 rfl; clear hS1
  refine seq_yl hF (wn_none rfl) rfl rfl (yl_un hF rfl rfl (fun _ => run_not)) ?_
  clear hF; intro a hF
  refine wpList_nil ?_
  refine then_n ?_
  refine c_cond hF rfl (fun hc339 => ?_) (fun hc339 => ?_)
  · first | (replace hc339 := of_decide_eq_true hc339) | (replace hc339 := of_decide_eq_false (bnot_t hc339)) | (replace hc339 := bnot_t hc339) | skip
    try (have hc339x := hc339; simp only [okS, okI, okW, okP] at hc339x)
    refine c_seq ?_
    refine c_region ?_
    refine seq_yl hF (wn_none rfl) rfl rfl (yl_assign hF rfl rfl) ?_
    clear hF; intro a hF
    refine wpList_nil ?_
    refine then_n ?_
    refine wp_ret ?_
    refine then_r ?_
    refine ret_t hF rfl rfl ?_
    have hrd : chooseF st L F rm P T = (ByteArray.mk #[]) := ch_no (by assumption)
    rw [hrd]; exact ⟨_, rfl, rfl, (hS.sub [] (by decide) (by first | rfl | simp) (by simp))⟩
  · first | (replace hc339 := of_decide_eq_false hc339) | (replace hc339 := of_decide_eq_true (bnot_f hc339)) | (replace hc339 := bnot_f hc339) | skip
    try (have hc339x := hc339; simp only [okS, okI, okW, okP] at hc339x)
    refine wp_skip ?_
    refine then_n ?_
    refine c_seq ?_
    refine c_region ?_
    refine seq_wp (wn_none rfl) (wp_alloc (cs := #[_, _]) hF hS rfl rfl rfl zr67 rfl ?_)
    clear hF hS; intro a w g340 hF hS
    refine wpList_nil ?_
    refine then_n ?_
    refine c_seq ?_
    refine c_region ?_
    refine seq_yl hF (wn_none rfl) rfl rfl (yl_assign hF rfl rfl) ?_
    clear hF; intro a hF
    refine wpList_nil ?_
    refine then_n ?_
    refine c_seq ?_
    refine c_seq ?_
    refine c_region ?_
    refine seq_yl hF (wn_none rfl) rfl rfl (yl_loadK (rs := [_, _, _]) (fun _ h => h ▸ hS) hF rfl rfl 2 rfl ag24 sz24 rfl rfl) ?_
    clear hF; intro a hF
    refine seq_wp (wn_none rfl) (wp_call (vs := [_]) hF rfl rfl rfl rfl cf35 (csecs_any st _ _ _ (by omega)) ?_)
    clear hF; rintro _ w ⟨rfl, hS1⟩ a hF
    replace hS := hS.callB hS1 rfl; clear hS1
    refine seq_yl hF (wn_none rfl) rfl rfl (yl_move hF rfl rfl) ?_
    clear hF; intro a hF
    refine wpList_nil ?_
    refine then_n ?_
    refine wp_block ?_
    replace hS := hS.addNil 5 1
    have hC : okC st L F rm := by assumption
    have hCi := okD_I hC.1
    refine c_loop (fun m a w => ∃ (k q : Nat) (pB : Value) (AvB : Option Addr) (mv cvB : Nat), m = ((st.size : Int) / 8 - (k : Int)).toNat ∧ ((k : Int) ≤ (st.size : Int) / 8 ∧ (pB = .pointer none ∨ pB = .pointer (some ⟨g340, 0, none⟩)) ∧ q = (secN st (L ++ F) k).length) ∧ Fr 75 a [(1, .slice Afv (F).length cfv), (3, .pointer (some ⟨g337, 0, none⟩)), (5, .pointer (some ⟨g338, 0, none⟩)), (7, .pointer (some ⟨g340, 0, none⟩)), (8, .int .i64 ((q : Nat) : Int)), (18, .int .i64 ((((st).size : Int) / 8))), (19, .int .i64 ((k : Nat) : Int))] ∧ Sat w0 w (.box g337 24 #[.string st, .slice Alv (L).length clv, .int .i64 (rm)] :: .box g338 28 #[.slice Apv (P).length cpv, .slice Atv (T).length ctv] :: .box g340 67 #[pB, .slice AvB mv cvB] :: .row 5 1 (.slice AvB mv cvB) ((byteL (catF (chS st (L ++ F) P T) 0 k))).length (cells encU ((byteL (catF (chS st (L ++ F) P T) 0 k)))) :: .ro 2 (.slice Alv (L).length clv) (L).length (cells enc59 (L)) :: .ro 2 (.slice Afv (F).length cfv) (F).length (cells enc59 (F)) :: .ro 1 (.slice Apv (P).length cpv) (P).length (cells encI (P)) :: .ro 1 (.slice Atv (T).length ctv) (T).length (cells encB (T)) :: [])) (((st.size : Int) / 8 - ((0 : Nat) : Int)).toNat) ?_ ?_
    · exact ⟨0, 0, _, none, 0, 0, rfl, ⟨by omega, .inl rfl, rfl⟩, hF.to [1, 3, 5, 7, 8, 18, 19] rfl, (hS.sub [3, 2, 1, 0, 4, 5, 6, 7] (by decide) (by first | rfl | simp) (by simp))⟩
    · clear hF hS; try clear hSS
      clear a w; rintro m a w ⟨k, q, pB, AvB, mv, cvB, rfl, hinv, hF, hS⟩
      obtain ⟨hk, hpB, hq⟩ := hinv
      have hacc := cat_chS (P := P) (T := T) (k := k) hC hk
      have hsl := secN_len st (L ++ F) k
      obtain rfl := (hS.rdRow 3 rfl).len
      refine c_seq ?_
      refine c_region ?_
      refine seq_yl hF (wn_none rfl) rfl rfl (yl_bin hF rfl rfl rfl rfl (fun _ => run_lss)) ?_
      clear hF; intro a hF
      refine wpList_nil ?_
      refine then_n ?_
      refine c_seq ?_
      refine c_cond hF rfl (fun hc341 => ?_) (fun hc341 => ?_)
      · first | (replace hc341 := of_decide_eq_true hc341) | (replace hc341 := of_decide_eq_false (bnot_t hc341)) | (replace hc341 := bnot_t hc341) | skip
        try (have hc341x := hc341; simp only [okS, okI, okW, okP] at hc341x)
        refine wp_skip ?_
        refine then_n ?_
        refine c_seq ?_
        refine wp_block ?_
        refine c_seq ?_
        refine c_region ?_
        refine seq_yl hF (wn_none rfl) rfl rfl (yl_move hF rfl rfl) ?_
        clear hF; intro a hF
        refine seq_yl hF (wn_none rfl) rfl rfl (yl_assign hF rfl rfl) ?_
        clear hF; intro a hF
        refine wpList_nil ?_
        refine then_n ?_
        refine c_seq ?_
        refine c_region ?_
        refine seq_yl hF (wn_none rfl) rfl rfl (yl_loadK (rs := [_, _, _]) (fun _ h => h ▸ hS) hF rfl rfl 0 rfl ag24 sz24 rfl rfl) ?_
        clear hF; intro a hF
        refine seq_yl hF (wn_none rfl) rfl rfl (yl_move hF rfl rfl) ?_
        clear hF; intro a hF
        refine seq_yl hF (wn_none rfl) rfl rfl (yl_move hF rfl rfl) ?_
        clear hF; intro a hF
        refine seq_wp (wn_none rfl) (wp_call (vs := [_, _, _]) hF rfl rfl rfl rfl cf36 (cvers_any st _ L (rm) _ F ((k : Nat) : Int) _ (hS.rdRo 4 rfl) (by first | omega | (simp; done)) (by first | omega | (simp; done)) (hS.rdRo 5 rfl) (by first | omega | (simp; done)) hC.1 (okS_k hC (by omega))) ?_)
        clear hF; rintro _ w ⟨v342, rfl, hS1⟩ a hF
        replace hS := hS.callB hS1 rfl; clear hS1
        obtain ⟨Av342, cv342, rfl⟩ := hS.form 0 rfl
        have hvn343 := versC_len st (L ++ F) ((k : Nat) : Int); simp only [List.length_append] at hvn343
        refine seq_yl hF (wn_none rfl) rfl rfl (yl_assign hF rfl rfl) ?_
        clear hF; intro a hF
        refine wpList_nil ?_
        refine then_n ?_
        refine c_seq ?_
        refine c_region ?_
        refine seq_yl hF (wn_none rfl) rfl rfl (yl_move hF rfl rfl) ?_
        clear hF; intro a hF
        have hlt_hx344 : 0 < ((versC st (L ++ F) ((k : Nat) : Int))).length := by first | omega | (simp; done) | (simp; omega)
        obtain ⟨ad345, rfl⟩ := rd_some (hS.rdRow 0 rfl) hlt_hx344
        obtain ⟨x344, hx344⟩ := get_some hlt_hx344
        have hb_x344 := (versC_all hC (okS_k hC (by omega))) x344 (List.mem_of_getElem? hx344)
        refine seq_yl hF (wn_none rfl) rfl rfl (yl_indexAddr hF rfl rfl rfl (fun _ => run_idx' (k := 0) sl52 sz9 (hS.rdRow 0 rfl) hlt_hx344)) ?_
        clear hF; intro a hF
        refine seq_yl hF (wn_none rfl) rfl rfl (yl_loadAt hF rfl rfl ag9 (fun _ h => rd_cell0 (enc := encS) (by subst h; exact hS.rdRow 0 rfl) encS_len hx344 rfl rfl)) ?_
        clear hF; intro a hF
        refine seq_yl hF (wn_none rfl) rfl rfl (yl_assign hF rfl rfl) ?_
        clear hF; intro a hF
        refine wpList_nil ?_
        refine then_n ?_
        refine c_seq ?_
        refine c_seq ?_
        refine c_region ?_
        refine seq_yl hF (wn_none rfl) rfl rfl (yl_move hF rfl rfl) ?_
        clear hF; intro a hF
        refine seq_yl hF (wn_none rfl) rfl rfl (yl_len hF rfl rfl (fun _ => run_lenRd sl52 (hS.rdRow 0 rfl))) ?_
        clear hF; intro a hF
        refine seq_yl hF (wn_none rfl) rfl rfl (yl_bin hF rfl rfl rfl rfl (fun _ => run_gtr)) ?_
        clear hF; intro a hF
        refine wpList_nil ?_
        refine then_n ?_
        refine c_cond hF rfl (fun hc346 => ?_) (fun hc346 => ?_)
        · first | (replace hc346 := of_decide_eq_true hc346) | (replace hc346 := of_decide_eq_false (bnot_t hc346)) | (replace hc346 := bnot_t hc346) | skip
          try (have hc346x := hc346; simp only [okS, okI, okW, okP] at hc346x)
          refine c_seq ?_
          refine c_region ?_
          refine seq_yl hF (wn_none rfl) rfl rfl (yl_assign hF rfl rfl) ?_
          clear hF; intro a hF
          refine wpList_nil ?_
          refine then_n ?_
          refine c_seq ?_
          refine c_seq ?_
          refine c_region ?_
          refine seq_yl hF (wn_none rfl) rfl rfl (yl_move hF rfl rfl) ?_
          clear hF; intro a hF
          refine seq_yl hF (wn_none rfl) rfl rfl (yl_fieldAddr hF rfl rfl (fun w => by kernel_rfl : ∀ w, (Instr.fieldAt 28 (.pointer (some ⟨g338, 0, none⟩)) 0).run Try.prog w = .ok (.pointer (some ⟨g338, 0, none⟩)) w)) ?_
          clear hF; intro a hF
          refine seq_yl hF (wn_none rfl) rfl rfl (yl_load (fun _ h => h ▸ hS) hF rfl rfl 2 rfl ag25 rfl) ?_
          clear hF; intro a hF
          refine seq_yl hF (wn_none rfl) rfl rfl (yl_len hF rfl rfl (fun _ => run_lenRd sl25 (hS.rdRo 7 rfl))) ?_
          clear hF; intro a hF
          refine seq_yl hF (wn_none rfl) rfl rfl (yl_bin hF rfl rfl rfl rfl (fun _ => run_lss)) ?_
          clear hF; intro a hF
          refine wpList_nil ?_
          refine then_n ?_
          refine c_cond hF rfl (fun hc347 => ?_) (fun hc347 => ?_)
          · first | (replace hc347 := of_decide_eq_true hc347) | (replace hc347 := of_decide_eq_false (bnot_t hc347)) | (replace hc347 := bnot_t hc347) | skip
            try (have hc347x := hc347; simp only [okS, okI, okW, okP] at hc347x)
            refine c_region ?_
            refine seq_yl hF (wn_none rfl) rfl rfl (yl_fieldAddr hF rfl rfl (fun w => by kernel_rfl : ∀ w, (Instr.fieldAt 28 (.pointer (some ⟨g338, 0, none⟩)) 0).run Try.prog w = .ok (.pointer (some ⟨g338, 0, none⟩)) w)) ?_
            clear hF; intro a hF
            refine seq_yl hF (wn_none rfl) rfl rfl (yl_load (fun _ h => h ▸ hS) hF rfl rfl 2 rfl ag25 rfl) ?_
            clear hF; intro a hF
            refine seq_yl hF (wn_none rfl) rfl rfl (yl_move hF rfl rfl) ?_
            clear hF; intro a hF
            have hlt_hx348 : q < (P).length := by first | omega | (simp; done) | (simp; omega)
            obtain ⟨ad349, rfl⟩ := rd_some (hS.rdRo 7 rfl) hlt_hx348
            obtain ⟨x348, hx348⟩ := get_some hlt_hx348
            refine seq_yl hF (wn_none rfl) rfl rfl (yl_indexAddr hF rfl rfl rfl (fun _ => run_idx' sl25 sz3 (hS.rdRo 7 rfl) hlt_hx348)) ?_
            clear hF; intro a hF
            refine seq_yl hF (wn_none rfl) rfl rfl (yl_loadAt hF rfl rfl ag3 (fun _ h => rd_cell0 (enc := encI) (by subst h; exact hS.rdRo 7 rfl) encI_len hx348 rfl rfl)) ?_
            clear hF; intro a hF
            refine seq_yl hF (wn_none rfl) rfl rfl (yl_max2 hF rfl rfl rfl) ?_
            clear hF; intro a hF
            refine seq_yl hF (wn_none rfl) rfl rfl (yl_move hF rfl rfl) ?_
            clear hF; intro a hF
            refine seq_yl hF (wn_none rfl) rfl rfl (yl_len hF rfl rfl (fun _ => run_lenRd sl52 (hS.rdRow 0 rfl))) ?_
            clear hF; intro a hF
            refine seq_yl hF (wn_none rfl) rfl rfl (yl_bin hF rfl rfl rfl rfl (fun _ => run_remN (by omega) (by omega))) ?_
            clear hF; intro a hF
            refine seq_yl hF (wn_none rfl) rfl rfl (yl_assign hF rfl rfl) ?_
            clear hF; intro a hF
            refine wpList_nil ?_
            refine then_n ?_
            refine c_seq ?_
            refine c_region ?_
            obtain ⟨ii350, hii350, hii350l⟩ := pick_nat x348 (n := ((versC st (L ++ F) ((k : Nat) : Int))).length) (by omega); rw [hii350] at hF
            refine seq_yl hF (wn_none rfl) rfl rfl (yl_move hF rfl rfl) ?_
            clear hF; intro a hF
            refine seq_yl hF (wn_none rfl) rfl rfl (yl_move hF rfl rfl) ?_
            clear hF; intro a hF
            have hlt_hx351 : ii350 < ((versC st (L ++ F) ((k : Nat) : Int))).length := by first | omega | (simp; done) | (simp; omega)
            obtain ⟨x351, hx351⟩ := get_some hlt_hx351
            have hb_x351 := (versC_all hC (okS_k hC (by omega))) x351 (List.mem_of_getElem? hx351)
            refine seq_yl hF (wn_none rfl) rfl rfl (yl_indexAddr hF rfl rfl rfl (fun _ => run_idx' sl52 sz9 (hS.rdRow 0 rfl) hlt_hx351)) ?_
            clear hF; intro a hF
            refine seq_yl hF (wn_none rfl) rfl rfl (yl_loadAt hF rfl rfl ag9 (fun _ h => rd_cell0 (enc := encS) (by subst h; exact hS.rdRow 0 rfl) encS_len hx351 rfl rfl)) ?_
            clear hF; intro a hF
            refine seq_yl hF (wn_none rfl) rfl rfl (yl_assign hF rfl rfl) ?_
            clear hF; intro a hF
            refine wpList_nil ?_
            refine then_n ?_
            refine c_seq ?_
            refine c_seq ?_
            refine c_region ?_
            refine seq_yl hF (wn_none rfl) rfl rfl (yl_move hF rfl rfl) ?_
            clear hF; intro a hF
            refine seq_yl hF (wn_none rfl) rfl rfl (yl_bin hF rfl rfl rfl rfl (fun _ => run_geq)) ?_
            clear hF; intro a hF
            refine seq_yl hF (wn_none rfl) rfl rfl (yl_move hF rfl rfl) ?_
            clear hF; intro a hF
            refine fr_split hF (fun hc352 hF => ?_) (fun hc352 hF => ?_)
            · first | (replace hc352 := of_decide_eq_true hc352) | (replace hc352 := of_decide_eq_false (bnot_t hc352)) | (replace hc352 := bnot_t hc352) | skip
              try (have hc352x := hc352; simp only [okS, okI, okW, okP] at hc352x)
              refine seq_yl hF (wn_t hF rfl rfl rfl rfl) rfl rfl (yl_move hF rfl rfl) ?_
              clear hF; intro a hF
              refine seq_yl hF (wn_t hF rfl rfl rfl rfl) rfl rfl (yl_fieldAddr hF rfl rfl (fun w => by kernel_rfl : ∀ w, (Instr.fieldAt 28 (.pointer (some ⟨g338, 0, none⟩)) 1).run Try.prog w = .ok (.pointer (some ⟨g338, 1, none⟩)) w)) ?_
              clear hF; intro a hF
              refine seq_yl hF (wn_t hF rfl rfl rfl rfl) rfl rfl (yl_load (fun _ h => h ▸ hS) hF rfl rfl 2 rfl ag26 rfl) ?_
              clear hF; intro a hF
              refine seq_yl hF (wn_t hF rfl rfl rfl rfl) rfl rfl (yl_len hF rfl rfl (fun _ => run_lenRd sl26 (hS.rdRo 8 rfl))) ?_
              clear hF; intro a hF
              refine seq_yl hF (wn_t hF rfl rfl rfl rfl) rfl rfl (yl_bin hF rfl rfl rfl rfl (fun _ => run_lss)) ?_
              clear hF; intro a hF
              refine seq_yl hF (wn_none rfl) rfl rfl (yl_pick (u := _) (v := undef) hF rfl rfl (fun _ => rfl) (fun h => by cases h)) ?_
              clear hF; intro a hF
              refine seq_yl hF (wn_none rfl) rfl rfl (yl_move hF rfl rfl) ?_
              clear hF; intro a hF
              refine fr_split hF (fun hc353 hF => ?_) (fun hc353 hF => ?_)
              · first | (replace hc353 := of_decide_eq_true hc353) | (replace hc353 := of_decide_eq_false (bnot_t hc353)) | (replace hc353 := bnot_t hc353) | skip
                try (have hc353x := hc353; simp only [okS, okI, okW, okP] at hc353x)
                refine seq_yl hF (wn_t hF rfl rfl rfl rfl) rfl rfl (yl_fieldAddr hF rfl rfl (fun w => by kernel_rfl : ∀ w, (Instr.fieldAt 28 (.pointer (some ⟨g338, 0, none⟩)) 1).run Try.prog w = .ok (.pointer (some ⟨g338, 1, none⟩)) w)) ?_
                clear hF; intro a hF
                refine seq_yl hF (wn_t hF rfl rfl rfl rfl) rfl rfl (yl_load (fun _ h => h ▸ hS) hF rfl rfl 2 rfl ag26 rfl) ?_
                clear hF; intro a hF
                refine seq_yl hF (wn_t hF rfl rfl rfl rfl) rfl rfl (yl_move hF rfl rfl) ?_
                clear hF; intro a hF
                have hlt_hx354 : q < (T).length := by first | omega | (simp; done) | (simp; omega)
                obtain ⟨ad355, rfl⟩ := rd_some (hS.rdRo 8 rfl) hlt_hx354
                obtain ⟨x354, hx354⟩ := get_some hlt_hx354
                refine seq_yl hF (wn_t hF rfl rfl rfl rfl) rfl rfl (yl_indexAddr hF rfl rfl rfl (fun _ => run_idx' sl26 sz4 (hS.rdRo 8 rfl) hlt_hx354)) ?_
                clear hF; intro a hF
                refine seq_yl hF (wn_t hF rfl rfl rfl rfl) rfl rfl (yl_loadAt hF rfl rfl ag4 (fun _ h => rd_cell0 (enc := encB) (by subst h; exact hS.rdRo 8 rfl) encB_len hx354 rfl rfl)) ?_
                clear hF; intro a hF
                refine seq_yl hF (wn_none rfl) rfl rfl (yl_pick (u := _) (v := undef) hF rfl rfl (fun _ => rfl) (fun h => by cases h)) ?_
                clear hF; intro a hF
                refine wpList_nil ?_
                refine then_n ?_
                refine c_cond hF rfl (fun hc356 => ?_) (fun hc356 => ?_)
                · first | (replace hc356 := of_decide_eq_true hc356) | (replace hc356 := of_decide_eq_false (bnot_t hc356)) | (replace hc356 := bnot_t hc356) | skip
                  try (have hc356x := hc356; simp only [okS, okI, okW, okP] at hc356x)
                  refine c_region ?_
                  refine seq_yl hF (wn_none rfl) rfl rfl (yl_move hF rfl rfl) ?_
                  clear hF; intro a hF
                  refine seq_yl hF (wn_none rfl) rfl rfl (yl_move hF rfl rfl) ?_
                  clear hF; intro a hF
                  refine seq_wp (wn_none rfl) (wp_call (vs := [_, _]) hF rfl rfl rfl rfl cf39 (torn_any _ (versC st (L ++ F) ((k : Nat) : Int)) ii350 _ (hS.rdRow 0 rfl) (versC_all hC (okS_k hC (by omega))) (by omega) (by omega)) ?_)
                  clear hF; rintro _ w ⟨x357, y358, hta359, htb360, rfl, hS1⟩ a hF; replace hS := hS.callB hS1 rfl; clear hS1
                  have hta359z := torn_size ((versC_all hC (okS_k hC (by omega))) x357 (List.mem_of_getElem? hta359)) ((versC_all hC (okS_k hC (by omega))) y358 (List.mem_of_getElem? htb360))
                  refine seq_yl hF (wn_none rfl) rfl rfl (yl_assign hF rfl rfl) ?_
                  clear hF; intro a hF
                  refine wpList_nil ?_
                  refine then_n ?_
                  refine c_region ?_
                  refine seq_yl hF (wn_none rfl) rfl rfl (yl_move hF rfl rfl) ?_
                  clear hF; intro a hF
                  refine seq_yl hF (wn_none rfl) rfl rfl (yl_bin hF rfl rfl rfl rfl (fun _ => run_inc (by omega))) ?_
                  clear hF; intro a hF
                  refine seq_yl hF (wn_none rfl) rfl rfl (yl_assign hF rfl rfl) ?_
                  clear hF; intro a hF
                  refine wpList_nil ?_
                  refine then_n ?_
                  refine c_region ?_
                  refine seq_yl hF (wn_none rfl) rfl rfl (yl_move hF rfl rfl) ?_
                  clear hF; intro a hF
                  replace hS := (hS.sub [3, 4, 0, 1, 2, 5, 6, 7, 8] (by decide) (by first | rfl | simp) (by simp))
                  refine seq_wp (wn_none rfl) (wp_call (vs := [_, _]) hF rfl rfl rfl rfl cf40 (wstr_any _ _ _ _ _ _ _ (catF (chS st (L ++ F) P T) 0 k) (tornF x357 y358) hS hpB (by omega)) ?_)
                  clear hF hS; rintro _ w ⟨v361, rfl, hS⟩ a hF
                  obtain ⟨Av361, cv361, rfl⟩ := hS.form 1 rfl
                  refine wpList_nil ?_
                  refine inb_n ?_
                  refine then_n ?_
                  refine c_region ?_
                  refine seq_yl hF (wn_none rfl) rfl rfl (yl_bin hF rfl rfl rfl rfl (fun _ => run_inc (by omega))) ?_
                  clear hF; intro a hF
                  refine seq_yl hF (wn_none rfl) rfl rfl (yl_move hF rfl rfl) ?_
                  clear hF; intro a hF
                  refine wpList_nil ?_
                  refine then_n ?_
                  have hcd : (tornF x357 y358) = chS st (L ++ F) P T (0 + (k : Int)) := by rw [Int.zero_add]; exact (chS_torn (s := (k : Int)) (by omega) hq hx348 hii350 (by omega) (hx354.trans (congrArg some (by assumption))) hta359 htb360)
                  rw [hcd] at hS hF
                  exact ⟨_, (by omega), k + 1, _, _, Av361, _, cv361, rfl, ⟨by omega, .inr rfl, secN_q1 (by omega) hq⟩, hF.to [1, 3, 5, 7, 8, 18, 19] rfl, (hS.sub [3, 4, 0, 1, 5, 6, 7, 8] (by decide) (by first | rfl | simp) (by simp))⟩
                · first | (replace hc356 := of_decide_eq_false hc356) | (replace hc356 := of_decide_eq_true (bnot_f hc356)) | (replace hc356 := bnot_f hc356) | skip
                  try (have hc356x := hc356; simp only [okS, okI, okW, okP] at hc356x)
                  refine wp_skip ?_
                  refine then_n ?_
                  refine c_region ?_
                  refine seq_yl hF (wn_none rfl) rfl rfl (yl_move hF rfl rfl) ?_
                  clear hF; intro a hF
                  refine seq_yl hF (wn_none rfl) rfl rfl (yl_bin hF rfl rfl rfl rfl (fun _ => run_inc (by omega))) ?_
                  clear hF; intro a hF
                  refine seq_yl hF (wn_none rfl) rfl rfl (yl_assign hF rfl rfl) ?_
                  clear hF; intro a hF
                  refine wpList_nil ?_
                  refine then_n ?_
                  refine c_region ?_
                  refine seq_yl hF (wn_none rfl) rfl rfl (yl_move hF rfl rfl) ?_
                  clear hF; intro a hF
                  replace hS := (hS.sub [3, 4, 0, 1, 2, 5, 6, 7, 8] (by decide) (by first | rfl | simp) (by simp))
                  refine seq_wp (wn_none rfl) (wp_call (vs := [_, _]) hF rfl rfl rfl rfl cf40 (wstr_any _ _ _ _ _ _ _ (catF (chS st (L ++ F) P T) 0 k) x351 hS hpB (by omega)) ?_)
                  clear hF hS; rintro _ w ⟨v362, rfl, hS⟩ a hF
                  obtain ⟨Av362, cv362, rfl⟩ := hS.form 1 rfl
                  refine wpList_nil ?_
                  refine inb_n ?_
                  refine then_n ?_
                  refine c_region ?_
                  refine seq_yl hF (wn_none rfl) rfl rfl (yl_bin hF rfl rfl rfl rfl (fun _ => run_inc (by omega))) ?_
                  clear hF; intro a hF
                  refine seq_yl hF (wn_none rfl) rfl rfl (yl_move hF rfl rfl) ?_
                  clear hF; intro a hF
                  refine wpList_nil ?_
                  refine then_n ?_
                  have hcd : x351 = chS st (L ++ F) P T (0 + (k : Int)) := by rw [Int.zero_add]; exact (chS_plain (s := (k : Int)) (by omega) hq hx348 hii350 hx351 (by rintro ⟨h8, h9⟩; first | omega | (rw [List.getElem?_eq_none (by omega)] at h9; cases h9) | exact absurd ((Option.some.inj (hx354.symm.trans h9)).symm.trans (by assumption)) (by decide)))
                  rw [hcd] at hS hF
                  exact ⟨_, (by omega), k + 1, _, _, Av362, _, cv362, rfl, ⟨by omega, .inr rfl, secN_q1 (by omega) hq⟩, hF.to [1, 3, 5, 7, 8, 18, 19] rfl, (hS.sub [3, 4, 0, 1, 5, 6, 7, 8] (by decide) (by first | rfl | simp) (by simp))⟩
              · first | (replace hc353 := of_decide_eq_false hc353) | (replace hc353 := of_decide_eq_true (bnot_f hc353)) | (replace hc353 := bnot_f hc353) | skip
                try (have hc353x := hc353; simp only [okS, okI, okW, okP] at hc353x)
                refine seq_skip hF (wn_f hF rfl rfl rfl rfl) rfl rfl ?_
                clear hF; intro a hF
                refine seq_skip hF (wn_f hF rfl rfl rfl rfl) rfl rfl ?_
                clear hF; intro a hF
                refine seq_skip hF (wn_f hF rfl rfl rfl rfl) rfl rfl ?_
                clear hF; intro a hF
                refine seq_skip hF (wn_f hF rfl rfl rfl rfl) rfl rfl ?_
                clear hF; intro a hF
                refine seq_skip hF (wn_f hF rfl rfl rfl rfl) rfl rfl ?_
                clear hF; intro a hF
                refine seq_yl hF (wn_none rfl) rfl rfl (yl_pick (u := _) (v := undef) hF rfl rfl (fun h => by cases h) (fun _ => rfl)) ?_
                clear hF; intro a hF
                refine wpList_nil ?_
                refine then_n ?_
                refine c_cond_f hF rfl ?_
                refine wp_skip ?_
                refine then_n ?_
                refine c_region ?_
                refine seq_yl hF (wn_none rfl) rfl rfl (yl_move hF rfl rfl) ?_
                clear hF; intro a hF
                refine seq_yl hF (wn_none rfl) rfl rfl (yl_bin hF rfl rfl rfl rfl (fun _ => run_inc (by omega))) ?_
                clear hF; intro a hF
                refine seq_yl hF (wn_none rfl) rfl rfl (yl_assign hF rfl rfl) ?_
                clear hF; intro a hF
                refine wpList_nil ?_
                refine then_n ?_
                refine c_region ?_
                refine seq_yl hF (wn_none rfl) rfl rfl (yl_move hF rfl rfl) ?_
                clear hF; intro a hF
                replace hS := (hS.sub [3, 4, 0, 1, 2, 5, 6, 7, 8] (by decide) (by first | rfl | simp) (by simp))
                refine seq_wp (wn_none rfl) (wp_call (vs := [_, _]) hF rfl rfl rfl rfl cf40 (wstr_any _ _ _ _ _ _ _ (catF (chS st (L ++ F) P T) 0 k) x351 hS hpB (by omega)) ?_)
                clear hF hS; rintro _ w ⟨v363, rfl, hS⟩ a hF
                obtain ⟨Av363, cv363, rfl⟩ := hS.form 1 rfl
                refine wpList_nil ?_
                refine inb_n ?_
                refine then_n ?_
                refine c_region ?_
                refine seq_yl hF (wn_none rfl) rfl rfl (yl_bin hF rfl rfl rfl rfl (fun _ => run_inc (by omega))) ?_
                clear hF; intro a hF
                refine seq_yl hF (wn_none rfl) rfl rfl (yl_move hF rfl rfl) ?_
                clear hF; intro a hF
                refine wpList_nil ?_
                refine then_n ?_
                have hcd : x351 = chS st (L ++ F) P T (0 + (k : Int)) := by rw [Int.zero_add]; exact (chS_plain (s := (k : Int)) (by omega) hq hx348 hii350 hx351 (by rintro ⟨h8, h9⟩; first | omega | (rw [List.getElem?_eq_none (by omega)] at h9; cases h9)))
                rw [hcd] at hS hF
                exact ⟨_, (by omega), k + 1, _, _, Av363, _, cv363, rfl, ⟨by omega, .inr rfl, secN_q1 (by omega) hq⟩, hF.to [1, 3, 5, 7, 8, 18, 19] rfl, (hS.sub [3, 4, 0, 1, 5, 6, 7, 8] (by decide) (by first | rfl | simp) (by simp))⟩
            · first | (replace hc352 := of_decide_eq_false hc352) | (replace hc352 := of_decide_eq_true (bnot_f hc352)) | (replace hc352 := bnot_f hc352) | skip
              try (have hc352x := hc352; simp only [okS, okI, okW, okP] at hc352x)
              refine seq_skip hF (wn_f hF rfl rfl rfl rfl) rfl rfl ?_
              clear hF; intro a hF
              refine seq_skip hF (wn_f hF rfl rfl rfl rfl) rfl rfl ?_
              clear hF; intro a hF
              refine seq_skip hF (wn_f hF rfl rfl rfl rfl) rfl rfl ?_
              clear hF; intro a hF
              refine seq_skip hF (wn_f hF rfl rfl rfl rfl) rfl rfl ?_
              clear hF; intro a hF
              refine seq_skip hF (wn_f hF rfl rfl rfl rfl) rfl rfl ?_
              clear hF; intro a hF
              refine seq_yl hF (wn_none rfl) rfl rfl (yl_pick (u := _) (v := undef) hF rfl rfl (fun h => by cases h) (fun _ => rfl)) ?_
              clear hF; intro a hF
              refine seq_yl hF (wn_none rfl) rfl rfl (yl_move hF rfl rfl) ?_
              clear hF; intro a hF
              refine seq_skip hF (wn_f hF rfl rfl rfl rfl) rfl rfl ?_
              clear hF; intro a hF
              refine seq_skip hF (wn_f hF rfl rfl rfl rfl) rfl rfl ?_
              clear hF; intro a hF
              refine seq_skip hF (wn_f hF rfl rfl rfl rfl) rfl rfl ?_
              clear hF; intro a hF
              refine seq_skip hF (wn_f hF rfl rfl rfl rfl) rfl rfl ?_
              clear hF; intro a hF
              refine seq_skip hF (wn_f hF rfl rfl rfl rfl) rfl rfl ?_
              clear hF; intro a hF
              refine seq_yl hF (wn_none rfl) rfl rfl (yl_pick (u := _) (v := undef) hF rfl rfl (fun h => by cases h) (fun _ => rfl)) ?_
              clear hF; intro a hF
              refine wpList_nil ?_
              refine then_n ?_
              refine c_cond_f hF rfl ?_
              refine wp_skip ?_
              refine then_n ?_
              refine c_region ?_
              refine seq_yl hF (wn_none rfl) rfl rfl (yl_move hF rfl rfl) ?_
              clear hF; intro a hF
              refine seq_yl hF (wn_none rfl) rfl rfl (yl_bin hF rfl rfl rfl rfl (fun _ => run_inc (by omega))) ?_
              clear hF; intro a hF
              refine seq_yl hF (wn_none rfl) rfl rfl (yl_assign hF rfl rfl) ?_
              clear hF; intro a hF
              refine wpList_nil ?_
              refine then_n ?_
              refine c_region ?_
              refine seq_yl hF (wn_none rfl) rfl rfl (yl_move hF rfl rfl) ?_
              clear hF; intro a hF
              replace hS := (hS.sub [3, 4, 0, 1, 2, 5, 6, 7, 8] (by decide) (by first | rfl | simp) (by simp))
              refine seq_wp (wn_none rfl) (wp_call (vs := [_, _]) hF rfl rfl rfl rfl cf40 (wstr_any _ _ _ _ _ _ _ (catF (chS st (L ++ F) P T) 0 k) x351 hS hpB (by omega)) ?_)
              clear hF hS; rintro _ w ⟨v364, rfl, hS⟩ a hF
              obtain ⟨Av364, cv364, rfl⟩ := hS.form 1 rfl
              refine wpList_nil ?_
              refine inb_n ?_
              refine then_n ?_
              refine c_region ?_
              refine seq_yl hF (wn_none rfl) rfl rfl (yl_bin hF rfl rfl rfl rfl (fun _ => run_inc (by omega))) ?_
              clear hF; intro a hF
              refine seq_yl hF (wn_none rfl) rfl rfl (yl_move hF rfl rfl) ?_
              clear hF; intro a hF
              refine wpList_nil ?_
              refine then_n ?_
              have hcd : x351 = chS st (L ++ F) P T (0 + (k : Int)) := by rw [Int.zero_add]; exact (chS_plain (s := (k : Int)) (by omega) hq hx348 hii350 hx351 (by rintro ⟨h8, h9⟩; first | omega | (rw [List.getElem?_eq_none (by omega)] at h9; cases h9)))
              rw [hcd] at hS hF
              exact ⟨_, (by omega), k + 1, _, _, Av364, _, cv364, rfl, ⟨by omega, .inr rfl, secN_q1 (by omega) hq⟩, hF.to [1, 3, 5, 7, 8, 18, 19] rfl, (hS.sub [3, 4, 0, 1, 5, 6, 7, 8] (by decide) (by first | rfl | simp) (by simp))⟩
          · first | (replace hc347 := of_decide_eq_false hc347) | (replace hc347 := of_decide_eq_true (bnot_f hc347)) | (replace hc347 := bnot_f hc347) | skip
            try (have hc347x := hc347; simp only [okS, okI, okW, okP] at hc347x)
            refine wp_skip ?_
            refine then_n ?_
            refine c_seq ?_
            refine c_region ?_
            refine seq_yl hF (wn_none rfl) rfl rfl (yl_move hF rfl rfl) ?_
            clear hF; intro a hF
            refine seq_yl hF (wn_none rfl) rfl rfl (yl_move hF rfl rfl) ?_
            clear hF; intro a hF
            refine seq_yl hF (wn_none rfl) rfl rfl (yl_indexAddr hF rfl rfl rfl (fun _ => run_idx' (k := 0) sl52 sz9 (hS.rdRow 0 rfl) hlt_hx344)) ?_
            clear hF; intro a hF
            refine seq_yl hF (wn_none rfl) rfl rfl (yl_loadAt hF rfl rfl ag9 (fun _ h => rd_cell0 (enc := encS) (by subst h; exact hS.rdRow 0 rfl) encS_len hx344 rfl rfl)) ?_
            clear hF; intro a hF
            refine seq_yl hF (wn_none rfl) rfl rfl (yl_assign hF rfl rfl) ?_
            clear hF; intro a hF
            refine wpList_nil ?_
            refine then_n ?_
            refine c_seq ?_
            refine c_seq ?_
            refine c_region ?_
            refine seq_yl hF (wn_none rfl) rfl rfl (yl_move hF rfl rfl) ?_
            clear hF; intro a hF
            refine seq_yl hF (wn_none rfl) rfl rfl (yl_bin hF rfl rfl rfl rfl (fun _ => run_geq)) ?_
            clear hF; intro a hF
            replace hF := fr_set (b' := false) hF (by decide)
            refine seq_yl hF (wn_none rfl) rfl rfl (yl_move hF rfl rfl) ?_
            clear hF; intro a hF
            refine seq_skip hF (wn_f hF rfl rfl rfl rfl) rfl rfl ?_
            clear hF; intro a hF
            refine seq_skip hF (wn_f hF rfl rfl rfl rfl) rfl rfl ?_
            clear hF; intro a hF
            refine seq_skip hF (wn_f hF rfl rfl rfl rfl) rfl rfl ?_
            clear hF; intro a hF
            refine seq_skip hF (wn_f hF rfl rfl rfl rfl) rfl rfl ?_
            clear hF; intro a hF
            refine seq_skip hF (wn_f hF rfl rfl rfl rfl) rfl rfl ?_
            clear hF; intro a hF
            refine seq_yl hF (wn_none rfl) rfl rfl (yl_pick (u := _) (v := undef) hF rfl rfl (fun h => by cases h) (fun _ => rfl)) ?_
            clear hF; intro a hF
            refine seq_yl hF (wn_none rfl) rfl rfl (yl_move hF rfl rfl) ?_
            clear hF; intro a hF
            refine seq_skip hF (wn_f hF rfl rfl rfl rfl) rfl rfl ?_
            clear hF; intro a hF
            refine seq_skip hF (wn_f hF rfl rfl rfl rfl) rfl rfl ?_
            clear hF; intro a hF
            refine seq_skip hF (wn_f hF rfl rfl rfl rfl) rfl rfl ?_
            clear hF; intro a hF
            refine seq_skip hF (wn_f hF rfl rfl rfl rfl) rfl rfl ?_
            clear hF; intro a hF
            refine seq_skip hF (wn_f hF rfl rfl rfl rfl) rfl rfl ?_
            clear hF; intro a hF
            refine seq_yl hF (wn_none rfl) rfl rfl (yl_pick (u := _) (v := undef) hF rfl rfl (fun h => by cases h) (fun _ => rfl)) ?_
            clear hF; intro a hF
            refine wpList_nil ?_
            refine then_n ?_
            refine c_cond_f hF rfl ?_
            refine wp_skip ?_
            refine then_n ?_
            refine c_region ?_
            refine seq_yl hF (wn_none rfl) rfl rfl (yl_move hF rfl rfl) ?_
            clear hF; intro a hF
            refine seq_yl hF (wn_none rfl) rfl rfl (yl_bin hF rfl rfl rfl rfl (fun _ => run_inc (by omega))) ?_
            clear hF; intro a hF
            refine seq_yl hF (wn_none rfl) rfl rfl (yl_assign hF rfl rfl) ?_
            clear hF; intro a hF
            refine wpList_nil ?_
            refine then_n ?_
            refine c_region ?_
            refine seq_yl hF (wn_none rfl) rfl rfl (yl_move hF rfl rfl) ?_
            clear hF; intro a hF
            replace hS := (hS.sub [3, 4, 0, 1, 2, 5, 6, 7, 8] (by decide) (by first | rfl | simp) (by simp))
            refine seq_wp (wn_none rfl) (wp_call (vs := [_, _]) hF rfl rfl rfl rfl cf40 (wstr_any _ _ _ _ _ _ _ (catF (chS st (L ++ F) P T) 0 k) x344 hS hpB (by omega)) ?_)
            clear hF hS; rintro _ w ⟨v365, rfl, hS⟩ a hF
            obtain ⟨Av365, cv365, rfl⟩ := hS.form 1 rfl
            refine wpList_nil ?_
            refine inb_n ?_
            refine then_n ?_
            refine c_region ?_
            refine seq_yl hF (wn_none rfl) rfl rfl (yl_bin hF rfl rfl rfl rfl (fun _ => run_inc (by omega))) ?_
            clear hF; intro a hF
            refine seq_yl hF (wn_none rfl) rfl rfl (yl_move hF rfl rfl) ?_
            clear hF; intro a hF
            refine wpList_nil ?_
            refine then_n ?_
            have hcd : x344 = chS st (L ++ F) P T (0 + (k : Int)) := by rw [Int.zero_add]; exact (chS_none (s := (k : Int)) (by omega) hq (by omega) hx344)
            rw [hcd] at hS hF
            exact ⟨_, (by omega), k + 1, _, _, Av365, _, cv365, rfl, ⟨by omega, .inr rfl, secN_q1 (by omega) hq⟩, hF.to [1, 3, 5, 7, 8, 18, 19] rfl, (hS.sub [3, 4, 0, 1, 5, 6, 7, 8] (by decide) (by first | rfl | simp) (by simp))⟩
        · first | (replace hc346 := of_decide_eq_false hc346) | (replace hc346 := of_decide_eq_true (bnot_f hc346)) | (replace hc346 := bnot_f hc346) | skip
          try (have hc346x := hc346; simp only [okS, okI, okW, okP] at hc346x)
          refine wp_skip ?_
          refine then_n ?_
          refine c_region ?_
          refine seq_yl hF (wn_none rfl) rfl rfl (yl_move hF rfl rfl) ?_
          clear hF; intro a hF
          replace hS := (hS.sub [3, 4, 0, 1, 2, 5, 6, 7, 8] (by decide) (by first | rfl | simp) (by simp))
          refine seq_wp (wn_none rfl) (wp_call (vs := [_, _]) hF rfl rfl rfl rfl cf40 (wstr_any _ _ _ _ _ _ _ (catF (chS st (L ++ F) P T) 0 k) x344 hS hpB (by omega)) ?_)
          clear hF hS; rintro _ w ⟨v366, rfl, hS⟩ a hF
          obtain ⟨Av366, cv366, rfl⟩ := hS.form 1 rfl
          refine wpList_nil ?_
          refine inb_n ?_
          refine then_n ?_
          refine c_region ?_
          refine seq_yl hF (wn_none rfl) rfl rfl (yl_bin hF rfl rfl rfl rfl (fun _ => run_inc (by omega))) ?_
          clear hF; intro a hF
          refine seq_yl hF (wn_none rfl) rfl rfl (yl_move hF rfl rfl) ?_
          clear hF; intro a hF
          refine wpList_nil ?_
          refine then_n ?_
          have hcd : x344 = chS st (L ++ F) P T (0 + (k : Int)) := by rw [Int.zero_add]; exact (chS_one (s := (k : Int)) (by omega) hx344)
          rw [hcd] at hS hF
          exact ⟨_, (by omega), k + 1, _, _, Av366, _, cv366, rfl, ⟨by omega, .inr rfl, secN_q0 (by omega) hq⟩, hF.to [1, 3, 5, 7, 8, 18, 19] rfl, (hS.sub [3, 4, 0, 1, 5, 6, 7, 8] (by decide) (by first | rfl | simp) (by simp))⟩
      · first | (replace hc341 := of_decide_eq_false hc341) | (replace hc341 := of_decide_eq_true (bnot_f hc341)) | (replace hc341 := bnot_f hc341) | skip
        try (have hc341x := hc341; simp only [okS, okI, okW, okP] at hc341x)
        refine wp_exit ?_
        refine then_x ?_
        refine then_x ?_
        refine inb_x ?_
        refine then_n ?_
        refine c_seq ?_
        refine c_region ?_
        replace hS := (hS.sub [2, 3, 0, 1, 4, 5, 6, 7] (by decide) (by first | rfl | simp) (by simp))
        refine seq_wp (wn_none rfl) (wp_call (vs := [_]) hF rfl rfl rfl rfl cf41 (bld_string (fun B b l w => Builder_String_any B b l w) (acc := (catF (chS st (L ++ F) P T) 0 k)) hS hpB) ?_)
        clear hF hS; rintro _ w ⟨rfl, hS⟩ a hF
        replace hS := hS.addRo ht
        replace hS := hS.addRo hp
        replace hS := hS.addRo hf
        replace hS := hS.addRo hv
        refine seq_yl hF (wn_none rfl) rfl rfl (yl_assign hF rfl rfl) ?_
        clear hF; intro a hF
        refine wpList_nil ?_
        refine then_n ?_
        refine wp_ret ?_
        refine ret_t hF rfl rfl ?_
        have hrd : chooseF st L F rm P T = (catF (chS st (L ++ F) P T) 0 k) := ch_yes hC (by omega)
        rw [hrd]; exact ⟨_, rfl, rfl, (hS.sub [] (by decide) (by first | rfl | simp) (by simp))⟩

end Go.Proofs.Ytlhcpeolkkadbaa

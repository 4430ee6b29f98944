/- walks, printed by wip/gen -/
import Derived.Test.YtlhcpeolkkadbaaWb
namespace Go.Proofs.Ytlhcpeolkkadbaa
open Go.RowKit
set_option linter.unusedVariables false
set_option linter.unusedSimpArgs false

set_option maxRecDepth 100000 in
theorem csecF_any (st : ByteArray) (lv : Value) (L : List E59) (rm : Int) (fv : Value) (F : List E59) (w0 : World) (hv : Rd w0 2 lv (L).length (cells enc59 (L))) (hz : (st.size : Int) ≤ 9223372036854775807) (hL : L.length ≤ 1000000) (hf : Rd w0 2 fv (F).length (cells enc59 (F))) (hF0 : F.length ≤ 1000000) :
    Fn Try.prog 13 #[.agg #[.string st, lv, .int .i64 rm], fv] w0 (fun v w' => ∃ (v1 : Value) (M : List Int), v = v1 ∧ M = secF st L F rm ∧ Sat w0 w' [.row 3 1 v1 (M).length (cells encI (M))]) := by
  obtain ⟨Alv, clv, rfl⟩ := Rd.form hv
  obtain ⟨Afv, cfv, rfl⟩ := Rd.form hf
  refine c_enter (N := 28) (l := [_, _]) Try.func13 rfl rfl (fun a w hF hS => ?_)
  replace hS := hS.addRo hf
  replace hS := hS.addRo hv
  refine c_seq ?_
  refine c_region ?_
  refine seq_wp (wn_none rfl) (wp_box (cs := #[_, _, _]) hF hS rfl rfl rfl rfl rfl ?_)
  clear hF hS; intro a w g262 hF hS
  refine seq_yl hF (wn_none rfl) rfl rfl (yl_assign hF rfl rfl) ?_
  clear hF; intro a hF
  refine wpList_nil ?_
  refine then_n ?_
  refine c_seq ?_
  refine c_seq ?_
  refine c_region ?_
  refine seq_yl hF (wn_none rfl) rfl rfl (yl_loadK (rs := [_, _, _]) (fun _ h => h ▸ hS) hF rfl rfl 0 rfl ag24 sz24 rfl rfl) ?_
  clear hF; intro a hF
  refine seq_yl hF (wn_none rfl) rfl rfl (yl_move hF rfl rfl) ?_
  clear hF; intro a hF
  refine seq_wp (wn_none rfl) (wp_call (vs := [_, _]) hF rfl rfl rfl rfl cf34 (spec_any st _ L (rm) _ F _ (hS.rdRo 1 rfl) (by first | omega | (simp; done)) (by first | omega | (simp; done)) (hS.rdRo 2 rfl) (by first | omega | (simp; done))) ?_)
  clear hF; rintro _ w ⟨rfl, hS1⟩ a hF
  replace hS := hS.callB hS1 rfl; clear hS1
  refine seq_yl hF (wn_none rfl) rfl rfl (yl_un hF rfl rfl (fun _ => run_not)) ?_
  clear hF; intro a hF
  refine wpList_nil ?_
  refine then_n ?_
  refine c_cond hF rfl (fun hc263 => ?_) (fun hc263 => ?_)
  · first | (replace hc263 := of_decide_eq_true hc263) | (replace hc263 := of_decide_eq_false (bnot_t hc263)) | (subst hc263) | (replace hc263 := bnot_t hc263; subst hc263) | (replace hc263 := bnot_t hc263) | skip
    try (have hc263x := hc263; simp only [okS, okI, okW, okP] at hc263x)
    refine c_seq ?_
    refine c_region ?_
    refine seq_yl hF (wn_none rfl) rfl rfl (yl_assign hF rfl rfl) ?_
    clear hF; intro a hF
    refine wpList_nil ?_
    refine then_n ?_
    refine wp_ret ?_
    refine then_r ?_
    refine ret_t hF rfl rfl ?_
    replace hS := hS.addNil 3 1
    exact ⟨_, rfl, _, [], rfl, secF_no (by assumption), (hS.sub [0] (by decide) (by first | rfl | simp) (by simp))⟩
  · first | (replace hc263 := of_decide_eq_false hc263) | (replace hc263 := of_decide_eq_true (bnot_f hc263)) | (subst hc263) | (replace hc263 := bnot_f hc263; subst hc263) | (replace hc263 := bnot_f hc263) | skip
    try (have hc263x := hc263; simp only [okS, okI, okW, okP] at hc263x)
    refine wp_skip ?_
    refine then_n ?_
    refine c_seq ?_
    refine c_region ?_
    refine seq_yl hF (wn_none rfl) rfl rfl (yl_assign hF rfl rfl) ?_
    clear hF; intro a hF
    refine wpList_nil ?_
    refine then_n ?_
    refine c_seq ?_
    refine c_seq ?_
    refine c_region ?_
    refine seq_yl hF (wn_none rfl) rfl rfl (yl_loadK (rs := [_, _, _]) (fun _ h => h ▸ hS) hF rfl rfl 0 rfl ag24 sz24 rfl rfl) ?_
    clear hF; intro a hF
    refine seq_wp (wn_none rfl) (wp_call (vs := [_]) hF rfl rfl rfl rfl cf35 (csecs_any st _ _ _ (by omega)) ?_)
    clear hF; rintro _ w ⟨rfl, hS1⟩ a hF
    replace hS := hS.callB hS1 rfl; clear hS1
    refine seq_yl hF (wn_none rfl) rfl rfl (yl_move hF rfl rfl) ?_
    clear hF; intro a hF
    refine wpList_nil ?_
    refine then_n ?_
    refine wp_block ?_
    have hC : okC st L F rm := by assumption
    have hCi := okD_I hC.1
    replace hS := hS.addNil 3 1
    refine c_loop (fun m a w => ∃ (k : Nat) (AvR : Option Addr) (mv cvR : Nat), m = ((st.size : Int) / 8 - (k : Int)).toNat ∧ ((k : Int) ≤ (st.size : Int) / 8) ∧ Fr 28 a [(1, .slice Afv (F).length cfv), (2, .pointer (some ⟨g262, 0, none⟩)), (5, .slice AvR mv cvR), (12, .int .i64 ((((st).size : Int) / 8))), (13, .int .i64 ((k : Nat) : Int))] ∧ Sat w0 w (.box g262 24 #[.string st, .slice Alv (L).length clv, .int .i64 (rm)] :: .ro 2 (.slice Alv (L).length clv) (L).length (cells enc59 (L)) :: .ro 2 (.slice Afv (F).length cfv) (F).length (cells enc59 (F)) :: .row 3 1 (.slice AvR mv cvR) ((secN st (L ++ F) k)).length (cells encI ((secN st (L ++ F) k))) :: [])) (((st.size : Int) / 8 - ((0 : Nat) : Int)).toNat) ?_ ?_
    · exact ⟨0, none, 0, 0, rfl, (by omega), hF.to [1, 2, 5, 12, 13] rfl, (hS.sub [1, 2, 3, 0] (by decide) (by first | rfl | simp) (by simp))⟩
    · clear hF hS; try clear hSS
      clear a w; rintro m a w ⟨k, AvR, mv, cvR, rfl, hinv, hF, hS⟩
      have hk : (k : Int) ≤ (st.size : Int) / 8 := hinv
      have hsl := secN_len st (L ++ F) k
      refine c_seq ?_
      refine c_region ?_
      refine seq_yl hF (wn_none rfl) rfl rfl (yl_bin hF rfl rfl rfl rfl (fun _ => run_lss)) ?_
      clear hF; intro a hF
      refine wpList_nil ?_
      refine then_n ?_
      refine c_seq ?_
      refine c_cond hF rfl (fun hc265 => ?_) (fun hc265 => ?_)
      · first | (replace hc265 := of_decide_eq_true hc265) | (replace hc265 := of_decide_eq_false (bnot_t hc265)) | (subst hc265) | (replace hc265 := bnot_t hc265; subst hc265) | (replace hc265 := bnot_t hc265) | skip
        try (have hc265x := hc265; simp only [okS, okI, okW, okP] at hc265x)
        refine wp_skip ?_
        refine then_n ?_
        refine c_seq ?_
        refine wp_block ?_
        refine c_seq ?_
        refine c_region ?_
        refine seq_yl hF (wn_none rfl) rfl rfl (yl_move hF rfl rfl) ?_
        clear hF; intro a hF
        refine seq_yl hF (wn_none rfl) rfl rfl (yl_assign hF rfl rfl) ?_
        clear hF; intro a hF
        refine wpList_nil ?_
        refine then_n ?_
        refine c_seq ?_
        refine c_region ?_
        refine seq_yl hF (wn_none rfl) rfl rfl (yl_loadK (rs := [_, _, _]) (fun _ h => h ▸ hS) hF rfl rfl 0 rfl ag24 sz24 rfl rfl) ?_
        clear hF; intro a hF
        refine seq_yl hF (wn_none rfl) rfl rfl (yl_move hF rfl rfl) ?_
        clear hF; intro a hF
        refine seq_yl hF (wn_none rfl) rfl rfl (yl_move hF rfl rfl) ?_
        clear hF; intro a hF
        refine seq_wp (wn_none rfl) (wp_call (vs := [_, _, _]) hF rfl rfl rfl rfl cf36 (cvers_any st _ L (rm) _ F ((k : Nat) : Int) _ (hS.rdRo 1 rfl) (by first | omega | (simp; done)) (by first | omega | (simp; done)) (hS.rdRo 2 rfl) (by first | omega | (simp; done)) hC.1 (okS_k hC (by omega))) ?_)
        clear hF; rintro _ w ⟨v266, rfl, hS1⟩ a hF
        replace hS := hS.callB hS1 rfl; clear hS1
        obtain ⟨Av266, cv266, rfl⟩ := hS.form 0 rfl
        have hvn267 := versC_len st (L ++ F) ((k : Nat) : Int); simp only [List.length_append] at hvn267
        refine seq_yl hF (wn_none rfl) rfl rfl (yl_len hF rfl rfl (fun _ => run_lenRd sl52 (hS.rdRow 0 rfl))) ?_
        clear hF; intro a hF
        refine seq_yl hF (wn_none rfl) rfl rfl (yl_bin hF rfl rfl rfl rfl (fun _ => run_gtr)) ?_
        clear hF; intro a hF
        refine wpList_nil ?_
        refine then_n ?_
        refine c_cond hF rfl (fun hc268 => ?_) (fun hc268 => ?_)
        · first | (replace hc268 := of_decide_eq_true hc268) | (replace hc268 := of_decide_eq_false (bnot_t hc268)) | (subst hc268) | (replace hc268 := bnot_t hc268; subst hc268) | (replace hc268 := bnot_t hc268) | skip
          try (have hc268x := hc268; simp only [okS, okI, okW, okP] at hc268x)
          refine c_region ?_
          refine seq_yl hF (wn_none rfl) rfl rfl (yl_move hF rfl rfl) ?_
          clear hF; intro a hF
          refine seq_yl hF (wn_none rfl) rfl rfl (yl_move hF rfl rfl) ?_
          clear hF; intro a hF
          refine seq_wp (wn_none rfl) (wp_bslice (parts := [(0, .tmp 23)]) (vs := [(0, _)]) (enc := encI) (e := 3) (size := 1) (cs := #[.int .i64 ((k : Nat) : Int)]) hF hS rfl rfl rfl rfl ([((k : Nat) : Int)] : List Int) (fun w => by kernel_rfl) rfl rfl rfl (by decide) ?_)
          clear hF hS; intro a w v269 hF hS
          obtain ⟨Av269, cv269, rfl⟩ := hS.form 0 rfl
          refine seq_wp (wn_none rfl) (wp_app (enc := encI) hF hS rfl rfl rfl rfl rfl 5 rfl sl25 inf3 rfl (by decide) (hS.rdRow 0 rfl) encI_one (by decide) (by first | omega | (simp only [List.length_append, List.length_cons, List.length_nil]; omega) | (simp; omega)) ?_)
          clear hF hS; intro a w v270 hF hS
          obtain ⟨Av270, cv270, rfl⟩ := hS.form 5 rfl
          refine seq_yl hF (wn_none rfl) rfl rfl (yl_assign hF rfl rfl) ?_
          clear hF; intro a hF
          refine wpList_nil ?_
          refine inb_n ?_
          refine then_n ?_
          refine c_region ?_
          refine seq_yl hF (wn_none rfl) rfl rfl (yl_bin hF rfl rfl rfl rfl (fun _ => run_inc (by omega))) ?_
          clear hF; intro a hF
          refine seq_yl hF (wn_none rfl) rfl rfl (yl_move hF rfl rfl) ?_
          clear hF; intro a hF
          refine wpList_nil ?_
          refine then_n ?_
          rw [secN_in (st := st) (L := L ++ F) (k := k) (by omega)] at hS hF
          exact ⟨_, (by omega), k + 1, Av270, _, cv270, rfl, (show _ ≤ _ by omega), hF.to [1, 2, 5, 12, 13] rfl, (hS.sub [2, 3, 4, 5] (by decide) (by first | rfl | simp) (by simp))⟩
        · first | (replace hc268 := of_decide_eq_false hc268) | (replace hc268 := of_decide_eq_true (bnot_f hc268)) | (subst hc268) | (replace hc268 := bnot_f hc268; subst hc268) | (replace hc268 := bnot_f hc268) | skip
          try (have hc268x := hc268; simp only [okS, okI, okW, okP] at hc268x)
          refine wp_skip ?_
          refine inb_n ?_
          refine then_n ?_
          refine c_region ?_
          refine seq_yl hF (wn_none rfl) rfl rfl (yl_bin hF rfl rfl rfl rfl (fun _ => run_inc (by omega))) ?_
          clear hF; intro a hF
          refine seq_yl hF (wn_none rfl) rfl rfl (yl_move hF rfl rfl) ?_
          clear hF; intro a hF
          refine wpList_nil ?_
          refine then_n ?_
          rw [secN_out (st := st) (L := L ++ F) (k := k) (by omega)] at hS
          exact ⟨_, (by omega), k + 1, AvR, _, cvR, rfl, (show _ ≤ _ by omega), hF.to [1, 2, 5, 12, 13] rfl, (hS.sub [1, 2, 3, 4] (by decide) (by first | rfl | simp) (by simp))⟩
      · first | (replace hc265 := of_decide_eq_false hc265) | (replace hc265 := of_decide_eq_true (bnot_f hc265)) | (subst hc265) | (replace hc265 := bnot_f hc265; subst hc265) | (replace hc265 := bnot_f hc265) | skip
        try (have hc265x := hc265; simp only [okS, okI, okW, okP] at hc265x)
        refine wp_exit ?_
        refine then_x ?_
        refine then_x ?_
        refine inb_x ?_
        refine then_n ?_
        refine c_seq ?_
        refine c_region ?_
        refine seq_yl hF (wn_none rfl) rfl rfl (yl_move hF rfl rfl) ?_
        clear hF; intro a hF
        refine seq_yl hF (wn_none rfl) rfl rfl (yl_assign hF rfl rfl) ?_
        clear hF; intro a hF
        refine wpList_nil ?_
        refine then_n ?_
        refine wp_ret ?_
        refine ret_t hF rfl rfl ?_
        exact ⟨_, rfl, _, _, rfl, secF_yes (k := k) hC (by omega), (hS.sub [3] (by decide) (by first | rfl | simp) (by simp))⟩

set_option maxRecDepth 100000 in
theorem csecF2_any (st : ByteArray) (lv : Value) (L : List E59) (rm : Int) (fv : Value) (F : List E59) (w0 : World) (hv : Rd w0 2 lv (L).length (cells enc59 (L))) (hz : (st.size : Int) ≤ 9223372036854775807) (hL : L.length ≤ 1000000) (hf : Rd w0 2 fv (F).length (cells enc59 (F))) (hF0 : F.length ≤ 1000000) :
    Fn Try.prog 14 #[.agg #[.string st, lv, .int .i64 rm], fv] w0 (fun v w' => ∃ (v1 : Value) (M : List Int), v = v1 ∧ M = secF st L F rm ∧ Sat w0 w' [.row 3 1 v1 (M).length (cells encI (M))]) := by
  obtain ⟨Alv, clv, rfl⟩ := Rd.form hv
  obtain ⟨Afv, cfv, rfl⟩ := Rd.form hf
  refine c_enter (N := 28) (l := [_, _]) Try.func14 rfl rfl (fun a w hF hS => ?_)
  replace hS := hS.addRo hf
  replace hS := hS.addRo hv
  refine c_seq ?_
  refine c_region ?_
  refine seq_wp (wn_none rfl) (wp_box (cs := #[_, _, _]) hF hS rfl rfl rfl rfl rfl ?_)
  clear hF hS; intro a w g271 hF hS
  refine seq_yl hF (wn_none rfl) rfl rfl (yl_assign hF rfl rfl) ?_
  clear hF; intro a hF
  refine wpList_nil ?_
  refine then_n ?_
  refine c_seq ?_
  refine c_region ?_
  refine seq_yl hF (wn_none rfl) rfl rfl (yl_assign hF rfl rfl) ?_
  clear hF; intro a hF
  refine wpList_nil ?_
  refine then_n ?_
  refine c_seq ?_
  refine c_seq ?_
  refine c_region ?_
  refine seq_yl hF (wn_none rfl) rfl rfl (yl_loadK (rs := [_, _, _]) (fun _ h => h ▸ hS) hF rfl rfl 0 rfl ag24 sz24 rfl rfl) ?_
  clear hF; intro a hF
  refine seq_yl hF (wn_none rfl) rfl rfl (yl_move hF rfl rfl) ?_
  clear hF; intro a hF
  refine seq_wp (wn_none rfl) (wp_call (vs := [_, _]) hF rfl rfl rfl rfl cf37 (flies_any st _ L (rm) _ F _ (hS.rdRo 1 rfl) (by first | omega | (simp; done)) (by first | omega | (simp; done)) (hS.rdRo 2 rfl) (by first | omega | (simp; done))) ?_)
  clear hF; rintro _ w ⟨rfl, hS1⟩ a hF
  replace hS := hS.callB hS1 rfl; clear hS1
  refine seq_yl hF (wn_none rfl) rfl rfl (yl_un hF rfl rfl (fun _ => run_not)) ?_
  clear hF; intro a hF
  refine wpList_nil ?_
  refine then_n ?_
  refine c_cond hF rfl (fun hc272 => ?_) (fun hc272 => ?_)
  · first | (replace hc272 := of_decide_eq_true hc272) | (replace hc272 := of_decide_eq_false (bnot_t hc272)) | (subst hc272) | (replace hc272 := bnot_t hc272; subst hc272) | (replace hc272 := bnot_t hc272) | skip
    try (have hc272x := hc272; simp only [okS, okI, okW, okP] at hc272x)
    refine c_seq ?_
    refine c_region ?_
    refine seq_yl hF (wn_none rfl) rfl rfl (yl_assign hF rfl rfl) ?_
    clear hF; intro a hF
    refine wpList_nil ?_
    refine then_n ?_
    refine wp_ret ?_
    refine then_r ?_
    refine ret_t hF rfl rfl ?_
    replace hS := hS.addNil 3 1
    exact ⟨_, rfl, _, [], rfl, secF_no (by assumption), (hS.sub [0] (by decide) (by first | rfl | simp) (by simp))⟩
  · first | (replace hc272 := of_decide_eq_false hc272) | (replace hc272 := of_decide_eq_true (bnot_f hc272)) | (subst hc272) | (replace hc272 := bnot_f hc272; subst hc272) | (replace hc272 := bnot_f hc272) | skip
    try (have hc272x := hc272; simp only [okS, okI, okW, okP] at hc272x)
    refine wp_skip ?_
    refine then_n ?_
    refine c_seq ?_
    refine c_seq ?_
    refine c_region ?_
    refine seq_yl hF (wn_none rfl) rfl rfl (yl_assign hF rfl rfl) ?_
    clear hF; intro a hF
    refine wpList_nil ?_
    refine then_n ?_
    refine wp_block ?_
    have hC : okC st L F rm := by assumption
    have hCi := okD_I hC.1
    replace hS := hS.addNil 3 1
    refine c_loop (fun m a w => ∃ (k : Nat) (AvR : Option Addr) (mv cvR : Nat), m = ((st.size : Int) / 8 - (k : Int)).toNat ∧ ((k : Int) ≤ (st.size : Int) / 8) ∧ Fr 28 a [(1, .slice Afv (F).length cfv), (2, .pointer (some ⟨g271, 0, none⟩)), (5, .slice AvR mv cvR), (6, .int .i64 ((k : Nat) : Int))] ∧ Sat w0 w (.box g271 24 #[.string st, .slice Alv (L).length clv, .int .i64 (rm)] :: .ro 2 (.slice Alv (L).length clv) (L).length (cells enc59 (L)) :: .ro 2 (.slice Afv (F).length cfv) (F).length (cells enc59 (F)) :: .row 3 1 (.slice AvR mv cvR) ((secN st (L ++ F) k)).length (cells encI ((secN st (L ++ F) k))) :: [])) (((st.size : Int) / 8 - ((0 : Nat) : Int)).toNat) ?_ ?_
    · exact ⟨0, none, 0, 0, rfl, (by omega), hF.to [1, 2, 5, 6] rfl, (hS.sub [1, 2, 3, 0] (by decide) (by first | rfl | simp) (by simp))⟩
    · clear hF hS; try clear hSS
      clear a w; rintro m a w ⟨k, AvR, mv, cvR, rfl, hinv, hF, hS⟩
      have hk : (k : Int) ≤ (st.size : Int) / 8 := hinv
      have hsl := secN_len st (L ++ F) k
      refine c_seq ?_
      refine c_seq ?_
      refine c_region ?_
      refine seq_yl hF (wn_none rfl) rfl rfl (yl_move hF rfl rfl) ?_
      clear hF; intro a hF
      refine seq_yl hF (wn_none rfl) rfl rfl (yl_loadK (rs := [_, _, _]) (fun _ h => h ▸ hS) hF rfl rfl 0 rfl ag24 sz24 rfl rfl) ?_
      clear hF; intro a hF
      refine seq_wp (wn_none rfl) (wp_call (vs := [_]) hF rfl rfl rfl rfl cf27 (secs_any st _ _ _ (by omega)) ?_)
      clear hF; rintro _ w ⟨rfl, hS1⟩ a hF
      replace hS := hS.callB hS1 rfl; clear hS1
      refine seq_yl hF (wn_none rfl) rfl rfl (yl_bin hF rfl rfl rfl rfl (fun _ => run_lss)) ?_
      clear hF; intro a hF
      refine wpList_nil ?_
      refine then_n ?_
      refine c_cond hF rfl (fun hc274 => ?_) (fun hc274 => ?_)
      · first | (replace hc274 := of_decide_eq_true hc274) | (replace hc274 := of_decide_eq_false (bnot_t hc274)) | (subst hc274) | (replace hc274 := bnot_t hc274; subst hc274) | (replace hc274 := bnot_t hc274) | skip
        try (have hc274x := hc274; simp only [okS, okI, okW, okP] at hc274x)
        refine wp_skip ?_
        refine then_n ?_
        refine c_seq ?_
        refine wp_block ?_
        refine c_seq ?_
        refine c_region ?_
        refine seq_yl hF (wn_none rfl) rfl rfl (yl_loadK (rs := [_, _, _]) (fun _ h => h ▸ hS) hF rfl rfl 0 rfl ag24 sz24 rfl rfl) ?_
        clear hF; intro a hF
        refine seq_yl hF (wn_none rfl) rfl rfl (yl_move hF rfl rfl) ?_
        clear hF; intro a hF
        refine seq_yl hF (wn_none rfl) rfl rfl (yl_move hF rfl rfl) ?_
        clear hF; intro a hF
        refine seq_wp (wn_none rfl) (wp_call (vs := [_, _, _]) hF rfl rfl rfl rfl cf38 (cvers2_any st _ L (rm) _ F ((k : Nat) : Int) _ (hS.rdRo 1 rfl) (by first | omega | (simp; done)) (by first | omega | (simp; done)) (hS.rdRo 2 rfl) (by first | omega | (simp; done)) hC.1 (okS_k hC (by omega))) ?_)
        clear hF; rintro _ w ⟨v275, rfl, hS1⟩ a hF
        replace hS := hS.callB hS1 rfl; clear hS1
        obtain ⟨Av275, cv275, rfl⟩ := hS.form 0 rfl
        have hvn276 := versC_len st (L ++ F) ((k : Nat) : Int); simp only [List.length_append] at hvn276
        refine seq_yl hF (wn_none rfl) rfl rfl (yl_len hF rfl rfl (fun _ => run_lenRd sl52 (hS.rdRow 0 rfl))) ?_
        clear hF; intro a hF
        refine seq_yl hF (wn_none rfl) rfl rfl (yl_bin hF rfl rfl rfl rfl (fun _ => run_gtr)) ?_
        clear hF; intro a hF
        refine wpList_nil ?_
        refine then_n ?_
        refine c_cond hF rfl (fun hc277 => ?_) (fun hc277 => ?_)
        · first | (replace hc277 := of_decide_eq_true hc277) | (replace hc277 := of_decide_eq_false (bnot_t hc277)) | (subst hc277) | (replace hc277 := bnot_t hc277; subst hc277) | (replace hc277 := bnot_t hc277) | skip
          try (have hc277x := hc277; simp only [okS, okI, okW, okP] at hc277x)
          refine c_region ?_
          refine seq_yl hF (wn_none rfl) rfl rfl (yl_move hF rfl rfl) ?_
          clear hF; intro a hF
          refine seq_yl hF (wn_none rfl) rfl rfl (yl_move hF rfl rfl) ?_
          clear hF; intro a hF
          refine seq_wp (wn_none rfl) (wp_bslice (parts := [(0, .tmp 24)]) (vs := [(0, _)]) (enc := encI) (e := 3) (size := 1) (cs := #[.int .i64 ((k : Nat) : Int)]) hF hS rfl rfl rfl rfl ([((k : Nat) : Int)] : List Int) (fun w => by kernel_rfl) rfl rfl rfl (by decide) ?_)
          clear hF hS; intro a w v278 hF hS
          obtain ⟨Av278, cv278, rfl⟩ := hS.form 0 rfl
          refine seq_wp (wn_none rfl) (wp_app (enc := encI) hF hS rfl rfl rfl rfl rfl 5 rfl sl25 inf3 rfl (by decide) (hS.rdRow 0 rfl) encI_one (by decide) (by first | omega | (simp only [List.length_append, List.length_cons, List.length_nil]; omega) | (simp; omega)) ?_)
          clear hF hS; intro a w v279 hF hS
          obtain ⟨Av279, cv279, rfl⟩ := hS.form 5 rfl
          refine seq_yl hF (wn_none rfl) rfl rfl (yl_assign hF rfl rfl) ?_
          clear hF; intro a hF
          refine wpList_nil ?_
          refine inb_n ?_
          refine then_n ?_
          refine c_region ?_
          refine seq_yl hF (wn_none rfl) rfl rfl (yl_move hF rfl rfl) ?_
          clear hF; intro a hF
          refine seq_yl hF (wn_none rfl) rfl rfl (yl_bin hF rfl rfl rfl rfl (fun _ => run_inc (by omega))) ?_
          clear hF; intro a hF
          refine seq_yl hF (wn_none rfl) rfl rfl (yl_assign hF rfl rfl) ?_
          clear hF; intro a hF
          refine wpList_nil ?_
          refine then_n ?_
          rw [secN_in (st := st) (L := L ++ F) (k := k) (by omega)] at hS hF
          exact ⟨_, (by omega), k + 1, Av279, _, cv279, rfl, (show _ ≤ _ by omega), hF.to [1, 2, 5, 6] rfl, (hS.sub [2, 3, 4, 5] (by decide) (by first | rfl | simp) (by simp))⟩
        · first | (replace hc277 := of_decide_eq_false hc277) | (replace hc277 := of_decide_eq_true (bnot_f hc277)) | (subst hc277) | (replace hc277 := bnot_f hc277; subst hc277) | (replace hc277 := bnot_f hc277) | skip
          try (have hc277x := hc277; simp only [okS, okI, okW, okP] at hc277x)
          refine wp_skip ?_
          refine inb_n ?_
          refine then_n ?_
          refine c_region ?_
          refine seq_yl hF (wn_none rfl) rfl rfl (yl_move hF rfl rfl) ?_
          clear hF; intro a hF
          refine seq_yl hF (wn_none rfl) rfl rfl (yl_bin hF rfl rfl rfl rfl (fun _ => run_inc (by omega))) ?_
          clear hF; intro a hF
          refine seq_yl hF (wn_none rfl) rfl rfl (yl_assign hF rfl rfl) ?_
          clear hF; intro a hF
          refine wpList_nil ?_
          refine then_n ?_
          rw [secN_out (st := st) (L := L ++ F) (k := k) (by omega)] at hS
          exact ⟨_, (by omega), k + 1, AvR, _, cvR, rfl, (show _ ≤ _ by omega), hF.to [1, 2, 5, 6] rfl, (hS.sub [1, 2, 3, 4] (by decide) (by first | rfl | simp) (by simp))⟩
      · first | (replace hc274 := of_decide_eq_false hc274) | (replace hc274 := of_decide_eq_true (bnot_f hc274)) | (subst hc274) | (replace hc274 := bnot_f hc274; subst hc274) | (replace hc274 := bnot_f hc274) | skip
        try (have hc274x := hc274; simp only [okS, okI, okW, okP] at hc274x)
        refine wp_exit ?_
        refine then_x ?_
        refine then_x ?_
        refine inb_x ?_
        refine then_n ?_
        refine c_seq ?_
        refine c_region ?_
        refine seq_yl hF (wn_none rfl) rfl rfl (yl_move hF rfl rfl) ?_
        clear hF; intro a hF
        refine seq_yl hF (wn_none rfl) rfl rfl (yl_assign hF rfl rfl) ?_
        clear hF; intro a hF
        refine wpList_nil ?_
        refine then_n ?_
        refine wp_ret ?_
        refine ret_t hF rfl rfl ?_
        exact ⟨_, rfl, _, _, rfl, secF_yes (k := k) hC (by omega), (hS.sub [3] (by decide) (by first | rfl | simp) (by simp))⟩

end Go.Proofs.Ytlhcpeolkkadbaa

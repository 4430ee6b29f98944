/- walks, printed by wip/gen -/
import Derived.Test.YtlhcpeolkkadbaaWl
import Derived.Test.YtlhcpeolkkadbaaPC
import Derived.Test.YtlhcpeolkkadbaaWe
namespace Go.Proofs.Ytlhcpeolkkadbaa
open Go.RowKit
set_option linter.unusedVariables false
set_option linter.unusedSimpArgs false

set_option maxRecDepth 100000 in
theorem awake_any (w0 : World) :
    Fn Try.prog 19 #[] w0 (fun v w' => v = .bool true ∧ Sat w0 w' []) := by
  refine c_enter (N := 29) (l := []) Try.func19 rfl rfl (fun a w hF hS => ?_)
  refine c_seq ?_
  refine c_region ?_
  refine seq_yl hF (wn_none rfl) rfl rfl (yl_assign hF rfl rfl) ?_
  clear hF; intro a hF
  refine wpList_nil ?_
  refine then_n ?_
  refine c_seq ?_
  refine c_region ?_
  refine seq_yl hF (wn_none rfl) rfl rfl (yl_build (parts := [(1, .const (Go.Value.string (ByteArray.mk #[98, 98, 98, 98, 98, 98, 98, 98])))]) (vs := [(1, _)]) (cs := [_, _]) hF bd59 rfl rfl rfl rfl) ?_
  clear hF; intro a hF
  refine seq_wp (wn_none rfl) (wp_bslice (parts := [(0, .tmp 3)]) (vs := [(0, _)]) (enc := enc59) (e := 59) (size := 2) (cs := #[.int .i64 (0 : Int), .string (ByteArray.mk #[98, 98, 98, 98, 98, 98, 98, 98])]) hF hS rfl rfl rfl rfl ([(E59.mk (0 : Int) (ByteArray.mk #[98, 98, 98, 98, 98, 98, 98, 98]))] : List E59) (fun w => by kernel_rfl) rfl rfl rfl (by decide) ?_)
  clear hF hS; intro a w v440 hF hS
  obtain ⟨Av440, cv440, rfl⟩ := hS.form 0 rfl
  refine seq_yl hF (wn_none rfl) rfl rfl (yl_build (parts := [(0, .const (Go.Value.string (ByteArray.mk #[97, 97, 97, 97, 97, 97, 97, 97]))), (1, .tmp 4), (2, .const (Go.Value.int Go.IntKind.i64 1))]) (vs := [(0, _), (1, _), (2, _)]) (cs := [_, _, _]) hF bd24 rfl rfl rfl rfl) ?_
  clear hF; intro a hF
  refine seq_wp (wn_none rfl) (wp_alloc (cs := #[_, _, _]) hF hS rfl rfl rfl zr24 rfl ?_)
  clear hF hS; intro a w g441 hF hS
  refine seq_wp (wn_none rfl) (wp_store (cs' := #[_, _, _]) hF hS rfl rfl rfl rfl 0 rfl sz24 (by simp [Value.cells, Value.oneCell']) (by simp [Value.cells]) rfl ?_)
  clear hF hS; intro a w hF hS
  refine wpList_nil ?_
  refine then_n ?_
  refine c_seq ?_
  refine c_region ?_
  refine seq_yl hF (wn_none rfl) rfl rfl (yl_loadK (rs := [_, _, _]) (fun _ h => h ▸ hS) hF rfl rfl 0 rfl ag24 sz24 rfl rfl) ?_
  clear hF; intro a hF
  refine seq_wp (wn_none rfl) (wp_bslice (parts := [(0, .const (Go.Value.int Go.IntKind.i64 1))]) (vs := [(0, _)]) (enc := encI) (e := 3) (size := 1) (cs := #[.int .i64 (1 : Int)]) hF hS rfl rfl rfl rfl ([(1 : Int)] : List Int) (fun w => by kernel_rfl) rfl rfl rfl (by decide) ?_)
  clear hF hS; intro a w v442 hF hS
  obtain ⟨Av442, cv442, rfl⟩ := hS.form 0 rfl
  refine seq_wp (wn_none rfl) (wp_bslice (parts := [(0, .const (Go.Value.bool true))]) (vs := [(0, _)]) (enc := encB) (e := 4) (size := 1) (cs := #[.bool true]) hF hS rfl rfl rfl rfl ([true] : List Bool) (fun w => by kernel_rfl) rfl rfl rfl (by decide) ?_)
  clear hF hS; intro a w v443 hF hS
  obtain ⟨Av443, cv443, rfl⟩ := hS.form 0 rfl
  refine seq_yl hF (wn_none rfl) rfl rfl (yl_build (parts := [(0, .tmp 7), (1, .tmp 8)]) (vs := [(0, _), (1, _)]) (cs := [_, _]) hF bd28 rfl rfl rfl rfl) ?_
  clear hF; intro a hF
  refine seq_wp (wn_none rfl) (wp_call (vs := [_, _, _]) hF rfl rfl rfl rfl cf15 (choose_any (ByteArray.mk #[97, 97, 97, 97, 97, 97, 97, 97]) _ ([(E59.mk (0 : Int) (ByteArray.mk #[98, 98, 98, 98, 98, 98, 98, 98]))] : List E59) (1 : Int) _ ([] : List E59) _ ([(1 : Int)] : List Int) _ ([true] : List Bool) _ (hS.rdRow 3 rfl) (by first | omega | decide | (simp; done) | (simp; omega)) (by first | omega | decide | (simp; done) | (simp; omega)) (rd_nil _ 2 0 enc59) (by first | omega | decide | (simp; done) | (simp; omega)) (hS.rdRow 1 rfl) (hS.rdRow 0 rfl) (by first | omega | decide | (simp; done) | (simp; omega)) (by first | omega | decide | (simp; done) | (simp; omega))) ?_)
  clear hF; rintro _ w ⟨rfl, hS1⟩ a hF
  replace hS := hS.callB hS1 rfl; clear hS1
  have hz444 := choose_bd (ByteArray.mk #[97, 97, 97, 97, 97, 97, 97, 97]) ([(E59.mk (0 : Int) (ByteArray.mk #[98, 98, 98, 98, 98, 98, 98, 98]))] : List E59) ([] : List E59) (1 : Int) ([(1 : Int)] : List Int) ([true] : List Bool)
  refine seq_yl hF (wn_none rfl) rfl rfl (yl_assign hF rfl rfl) ?_
  clear hF; intro a hF
  refine wpList_nil ?_
  refine then_n ?_
  refine c_seq ?_
  refine c_region ?_
  refine seq_yl hF (wn_none rfl) rfl rfl (yl_move hF rfl rfl) ?_
  clear hF; intro a hF
  refine seq_yl hF (wn_none rfl) rfl rfl (yl_bin hF rfl rfl rfl rfl (fun _ => run_str_eql)) ?_
  clear hF; intro a hF
  replace hF := fr_set (b' := true) hF (by decide +kernel)
  refine seq_yl hF (wn_none rfl) rfl rfl (yl_move hF rfl rfl) ?_
  clear hF; intro a hF
  refine seq_yl hF (wn_t hF rfl rfl rfl rfl) rfl rfl (yl_loadK (rs := [_, _, _]) (fun _ h => h ▸ hS) hF rfl rfl 2 rfl ag24 sz24 rfl rfl) ?_
  clear hF; intro a hF
  refine seq_yl hF (wn_t hF rfl rfl rfl rfl) rfl rfl (yl_move hF rfl rfl) ?_
  clear hF; intro a hF
  refine seq_wp (wn_t hF rfl rfl rfl rfl) (wp_call (vs := [_, _, _]) hF rfl rfl rfl rfl cf17 (perm_any (ByteArray.mk #[97, 97, 97, 97, 97, 97, 97, 97]) _ ([(E59.mk (0 : Int) (ByteArray.mk #[98, 98, 98, 98, 98, 98, 98, 98]))] : List E59) (1 : Int) _ ([] : List E59) (chooseF (ByteArray.mk #[97, 97, 97, 97, 97, 97, 97, 97]) ([(E59.mk (0 : Int) (ByteArray.mk #[98, 98, 98, 98, 98, 98, 98, 98]))] : List E59) ([] : List E59) (1 : Int) ([(1 : Int)] : List Int) ([true] : List Bool)) _ (hS.rdRow 3 rfl) (by first | omega | decide | (simp; done) | (simp; omega)) (by first | omega | decide | (simp; done) | (simp; omega)) (rd_nil _ 2 0 enc59) (by first | omega | decide | (simp; done) | (simp; omega)) (by first | omega | decide | (simp; done) | (simp; omega))) ?_)
  clear hF; rintro _ w ⟨bq445, rfl, hpm446, hS1⟩ a hF
  replace hS := hS.callB hS1 rfl; clear hS1
  replace hF := fr_set (b' := true) hF (hpm446.2 (perm_choose (by decide +kernel)))
  refine seq_yl hF (wn_none rfl) rfl rfl (yl_pick (u := _) (v := undef) hF rfl rfl (fun _ => rfl) (fun h => by cases h)) ?_
  clear hF; intro a hF
  refine seq_yl hF (wn_none rfl) rfl rfl (yl_move hF rfl rfl) ?_
  clear hF; intro a hF
  refine seq_yl hF (wn_t hF rfl rfl rfl rfl) rfl rfl (yl_loadK (rs := [_, _, _]) (fun _ h => h ▸ hS) hF rfl rfl 2 rfl ag24 sz24 rfl rfl) ?_
  clear hF; intro a hF
  refine seq_wp (wn_t hF rfl rfl rfl rfl) (wp_call (vs := [_, _, _]) hF rfl rfl rfl rfl cf17 (perm_any (ByteArray.mk #[97, 97, 97, 97, 97, 97, 97, 97]) _ ([(E59.mk (0 : Int) (ByteArray.mk #[98, 98, 98, 98, 98, 98, 98, 98]))] : List E59) (1 : Int) _ ([] : List E59) (ByteArray.mk #[97, 97, 97, 97, 98, 98, 98, 98]) _ (hS.rdRow 3 rfl) (by first | omega | decide | (simp; done) | (simp; omega)) (by first | omega | decide | (simp; done) | (simp; omega)) (rd_nil _ 2 0 enc59) (by first | omega | decide | (simp; done) | (simp; omega)) (by first | omega | decide | (simp; done) | (simp; omega))) ?_)
  clear hF; rintro _ w ⟨bq447, rfl, hpm448, hS1⟩ a hF
  replace hS := hS.callB hS1 rfl; clear hS1
  replace hF := fr_set (b' := false) hF (Bool.eq_false_iff.2 (fun h9 => absurd (hpm448.1 h9) (perm_nob 0 (by decide) (by decide) (by decide +kernel))))
  refine seq_yl hF (wn_t hF rfl rfl rfl rfl) rfl rfl (yl_un hF rfl rfl (fun _ => run_not)) ?_
  clear hF; intro a hF
  refine seq_yl hF (wn_none rfl) rfl rfl (yl_pick (u := _) (v := undef) hF rfl rfl (fun _ => rfl) (fun h => by cases h)) ?_
  clear hF; intro a hF
  refine seq_yl hF (wn_none rfl) rfl rfl (yl_move hF rfl rfl) ?_
  clear hF; intro a hF
  refine seq_yl hF (wn_t hF rfl rfl rfl rfl) rfl rfl (yl_loadK (rs := [_, _, _]) (fun _ h => h ▸ hS) hF rfl rfl 2 rfl ag24 sz24 rfl rfl) ?_
  clear hF; intro a hF
  refine seq_wp (wn_t hF rfl rfl rfl rfl) (wp_call (vs := [_, _]) hF rfl rfl rfl rfl cf13 (csecF_any (ByteArray.mk #[97, 97, 97, 97, 97, 97, 97, 97]) _ ([(E59.mk (0 : Int) (ByteArray.mk #[98, 98, 98, 98, 98, 98, 98, 98]))] : List E59) (1 : Int) _ ([] : List E59) _ (hS.rdRow 3 rfl) (by first | omega | decide | (simp; done) | (simp; omega)) (by first | omega | decide | (simp; done) | (simp; omega)) (rd_nil _ 2 0 enc59) (by first | omega | decide | (simp; done) | (simp; omega))) ?_)
  clear hF; rintro _ w ⟨v449, M450, rfl, hM451, hS1⟩ a hF
  replace hS := hS.callB hS1 rfl; clear hS1
  obtain ⟨Av449, cv449, rfl⟩ := hS.form 0 rfl
  have hM451l := secF_len (ByteArray.mk #[97, 97, 97, 97, 97, 97, 97, 97]) ([(E59.mk (0 : Int) (ByteArray.mk #[98, 98, 98, 98, 98, 98, 98, 98]))] : List E59) ([] : List E59) (1 : Int); rw [← hM451] at hM451l
  refine seq_wp (wn_t hF rfl rfl rfl rfl) (wp_bslice (parts := [(0, .const (Go.Value.int Go.IntKind.i64 0))]) (vs := [(0, _)]) (enc := encI) (e := 3) (size := 1) (cs := #[.int .i64 (0 : Int)]) hF hS rfl rfl rfl rfl ([(0 : Int)] : List Int) (fun w => by kernel_rfl) rfl rfl rfl (by decide) ?_)
  clear hF hS; intro a w v452 hF hS
  obtain ⟨Av452, cv452, rfl⟩ := hS.form 0 rfl
  refine seq_wp (wn_t hF rfl rfl rfl rfl) (wp_call (vs := [_, _]) hF rfl rfl rfl rfl cf12 (sameI_any _ _ M450 ([(0 : Int)] : List Int) _ (hS.rdRow 1 rfl) (hS.rdRow 0 rfl) (by first | omega | (simp; done) | (simp; omega))) ?_)
  clear hF; rintro _ w ⟨rfl, hS1⟩ a hF
  replace hS := hS.callB hS1 rfl; clear hS1
  replace hF := fr_set (b' := true) hF (by rw [hM451]; decide +kernel)
  refine seq_yl hF (wn_none rfl) rfl rfl (yl_pick (u := _) (v := undef) hF rfl rfl (fun _ => rfl) (fun h => by cases h)) ?_
  clear hF; intro a hF
  refine seq_yl hF (wn_none rfl) rfl rfl (yl_assign hF rfl rfl) ?_
  clear hF; intro a hF
  refine wpList_nil ?_
  refine then_n ?_
  refine wp_ret ?_
  refine ret_t hF rfl rfl ?_
  exact ⟨_, rfl, rfl, (hS.sub [] (by decide) (by first | rfl | simp) (by simp))⟩

set_option maxHeartbeats 1000000 in
set_option maxRecDepth 100000 in
theorem exact_any (st : ByteArray) (lv : Value) (L : List E59) (rm : Int) (fv : Value) (F : List E59) (pv : Value) (P : List Int) (tv : Value) (T : List Bool) (im : ByteArray) (w0 : World) (hv : Rd w0 2 lv (L).length (cells enc59 (L))) (hf : Rd w0 2 fv (F).length (cells enc59 (F))) (hp : Rd w0 1 pv (P).length (cells encI (P))) (ht : Rd w0 1 tv (T).length (cells encB (T))) :
    Fn Try.prog 3 #[.agg #[.string st, lv, .int .i64 rm], fv, .agg #[pv, tv], .string im] w0 (fun v w' => v = .bool true ∧ Sat w0 w' []) := by
  obtain ⟨Alv, clv, rfl⟩ := Rd.form hv
  obtain ⟨Afv, cfv, rfl⟩ := Rd.form hf
  obtain ⟨Apv, cpv, rfl⟩ := Rd.form hp
  obtain ⟨Atv, ctv, rfl⟩ := Rd.form ht
  refine c_enter (N := 51) (l := [_, _, _, _]) Try.func3 rfl rfl (fun a w hF hS => ?_)
  replace hS := hS.addRo ht
  replace hS := hS.addRo hp
  replace hS := hS.addRo hf
  replace hS := hS.addRo hv
  refine c_seq ?_
  refine c_region ?_
  refine seq_wp (wn_none rfl) (wp_box (cs := #[_, _, _]) hF hS rfl rfl rfl rfl rfl ?_)
  clear hF hS; intro a w g453 hF hS
  refine seq_wp (wn_none rfl) (wp_box (cs := #[_, _]) hF hS rfl rfl rfl rfl rfl ?_)
  clear hF hS; intro a w g454 hF hS
  refine seq_yl hF (wn_none rfl) rfl rfl (yl_assign hF rfl rfl) ?_
  clear hF; intro a hF
  refine wpList_nil ?_
  refine then_n ?_
  refine c_seq ?_
  refine c_seq ?_
  refine c_region ?_
  refine seq_yl hF (wn_none rfl) rfl rfl (yl_loadK (rs := [_, _, _]) (fun _ h => h ▸ hS) hF rfl rfl 1 rfl ag24 sz24 rfl rfl) ?_
  clear hF; intro a hF
  refine seq_yl hF (wn_none rfl) rfl rfl (yl_move hF rfl rfl) ?_
  clear hF; intro a hF
  refine seq_yl hF (wn_none rfl) rfl rfl (yl_loadK (rs := [_, _]) (fun _ h => h ▸ hS) hF rfl rfl 0 rfl ag28 sz28 rfl rfl) ?_
  clear hF; intro a hF
  refine seq_wp (wn_none rfl) (wp_call (vs := [_, _, _]) hF rfl rfl rfl rfl cf11 (few_any st _ L (rm) _ F _ P _ T _ (hS.rdRo 2 rfl) (hS.rdRo 3 rfl) (hS.rdRo 4 rfl) (hS.rdRo 5 rfl)) ?_)
  clear hF; rintro _ w ⟨rfl, hS1⟩ a hF
  replace hS := hS.callB hS1 rfl; clear hS1
  refine seq_yl hF (wn_none rfl) rfl rfl (yl_un hF rfl rfl (fun _ => run_not)) ?_
  clear hF; intro a hF
  refine seq_yl hF (wn_none rfl) rfl rfl (yl_move hF rfl rfl) ?_
  clear hF; intro a hF
  refine fr_split hF (fun hc455 hF => ?_) (fun hc455 hF => ?_)
  · first | (replace hc455 := of_decide_eq_true hc455) | (replace hc455 := of_decide_eq_false (bnot_t hc455)) | (replace hc455 := bnot_t hc455) | skip
    try (have hc455x := hc455; simp only [okS, okI, okW, okP] at hc455x)
    refine seq_skip hF (wn_f hF rfl rfl rfl rfl) rfl rfl ?_
    clear hF; intro a hF
    refine seq_skip hF (wn_f hF rfl rfl rfl rfl) rfl rfl ?_
    clear hF; intro a hF
    refine seq_skip hF (wn_f hF rfl rfl rfl rfl) rfl rfl ?_
    clear hF; intro a hF
    refine seq_yl hF (wn_none rfl) rfl rfl (yl_pick (u := _) (v := undef) hF rfl rfl (fun _ => rfl) (fun h => by cases h)) ?_
    clear hF; intro a hF
    refine wpList_nil ?_
    refine then_n ?_
    refine c_cond_t hF rfl ?_
    refine c_seq ?_
    refine c_region ?_
    refine seq_yl hF (wn_none rfl) rfl rfl (yl_assign hF rfl rfl) ?_
    clear hF; intro a hF
    refine wpList_nil ?_
    refine then_n ?_
    refine wp_ret ?_
    refine then_r ?_
    refine ret_t hF rfl rfl ?_
    exact ⟨_, rfl, rfl, (hS.sub [] (by decide) (by first | rfl | simp) (by simp))⟩
  · first | (replace hc455 := of_decide_eq_false hc455) | (replace hc455 := of_decide_eq_true (bnot_f hc455)) | (replace hc455 := bnot_f hc455) | skip
    try (have hc455x := hc455; simp only [okS, okI, okW, okP] at hc455x)
    refine seq_yl hF (wn_t hF rfl rfl rfl rfl) rfl rfl (yl_move hF rfl rfl) ?_
    clear hF; intro a hF
    refine seq_yl hF (wn_t hF rfl rfl rfl rfl) rfl rfl (yl_len hF rfl rfl (fun _ => run_lenStr Try.underlying9)) ?_
    clear hF; intro a hF
    refine seq_yl hF (wn_t hF rfl rfl rfl rfl) rfl rfl (yl_bin hF rfl rfl rfl rfl (fun _ => run_gtr)) ?_
    clear hF; intro a hF
    refine seq_yl hF (wn_none rfl) rfl rfl (yl_pick (u := _) (v := undef) hF rfl rfl (fun h => by cases h) (fun _ => rfl)) ?_
    clear hF; intro a hF
    refine wpList_nil ?_
    refine then_n ?_
    refine c_cond hF rfl (fun hc456 => ?_) (fun hc456 => ?_)
    · first | (replace hc456 := of_decide_eq_true hc456) | (replace hc456 := of_decide_eq_false (bnot_t hc456)) | (replace hc456 := bnot_t hc456) | skip
      try (have hc456x := hc456; simp only [okS, okI, okW, okP] at hc456x)
      refine c_seq ?_
      refine c_region ?_
      refine seq_yl hF (wn_none rfl) rfl rfl (yl_assign hF rfl rfl) ?_
      clear hF; intro a hF
      refine wpList_nil ?_
      refine then_n ?_
      refine wp_ret ?_
      refine then_r ?_
      refine ret_t hF rfl rfl ?_
      exact ⟨_, rfl, rfl, (hS.sub [] (by decide) (by first | rfl | simp) (by simp))⟩
    · first | (replace hc456 := of_decide_eq_false hc456) | (replace hc456 := of_decide_eq_true (bnot_f hc456)) | (replace hc456 := bnot_f hc456) | skip
      try (have hc456x := hc456; simp only [okS, okI, okW, okP] at hc456x)
      refine wp_skip ?_
      refine then_n ?_
      refine c_seq ?_
      refine ha_startS hS [1, 0] 33 (by kernel_rfl) ?_; clear hS; intro w hS
      have hSS := hS.sub [1, 0] (by decide) rfl (by simp)
      refine ha_y 1 hF rfl rfl rfl (wn_none rfl) (.inr hSS) (yl_move hF rfl rfl) ?_
      clear hF; intro a hF
      refine ha_y 4 hF rfl rfl rfl (wn_none rfl) (.inr hSS) (yl_move hF rfl rfl) ?_
      clear hF; intro a hF
      refine ha_l 0 hF rfl rfl rfl (wn_none rfl) hSS (yl_loadK (rs := [_, _, _]) (fun _ h => h) hF rfl rfl 0 rfl ag24 sz24 rfl rfl) ?_
      clear hF; intro a hF
      refine ha_l 3 hF rfl rfl rfl (wn_none rfl) hSS (yl_loadK (rs := [_, _, _]) (fun _ h => h) hF rfl rfl 0 rfl ag24 sz24 rfl rfl) ?_
      clear hF; intro a hF
      refine ha_one 2 (by kernel_rfl) rfl (wn_none rfl) (wp_call (vs := [_, _]) hF rfl rfl rfl rfl cf13 (csecF_any st _ L (rm) _ F _ (hS.rdRo 2 rfl) (by first | omega | (simp; done)) (by first | omega | (simp; done)) (hS.rdRo 3 rfl) (by first | omega | (simp; done))) ?_)
      clear hF; rintro _ w ⟨v457, M458, rfl, hM459, hS1⟩ a hF
      replace hS := hS.callB hS1 rfl; clear hS1
      obtain ⟨Av457, cv457, rfl⟩ := hS.form 0 rfl
      have hM459l := secF_len st L F (rm); rw [← hM459] at hM459l
      replace hSS := hS.sub [2, 1] (by decide) rfl (by simp)
      refine ⟨.inr hSS, ?_⟩
      refine ha_one 5 (by kernel_rfl) rfl (wn_none rfl) (wp_call (vs := [_, _]) hF rfl rfl rfl rfl cf14 (csecF2_any st _ L (rm) _ F _ (hS.rdRo 3 rfl) (by first | omega | (simp; done)) (by first | omega | (simp; done)) (hS.rdRo 4 rfl) (by first | omega | (simp; done))) ?_)
      clear hF; rintro _ w ⟨v460, M461, rfl, hM462, hS1⟩ a hF
      replace hS := hS.callB hS1 rfl; clear hS1
      obtain ⟨Av460, cv460, rfl⟩ := hS.form 0 rfl
      have hM462l := secF_len st L F (rm); rw [← hM462] at hM462l
      replace hSS := hS.sub [3, 2] (by decide) rfl (by simp)
      refine ⟨.inr hSS, ?_⟩
      refine ha_one 6 (by kernel_rfl) rfl (wn_none rfl) (wp_call (vs := [_, _]) hF rfl rfl rfl rfl cf12 (sameI_any _ _ M458 M461 _ (hS.rdRow 1 rfl) (hS.rdRow 0 rfl) (by first | omega | (simp; done) | (simp; omega))) ?_)
      clear hF; rintro _ w ⟨rfl, hS1⟩ a hF
      replace hS := hS.callB hS1 rfl; clear hS1
      replace hSS := hS.sub [3, 2] (by decide) rfl (by simp)
      refine ⟨.inr hSS, ?_⟩
      replace hF := fr_set (b' := true) hF (by rw [hM459, hM462]; simp)
      refine ha_y 7 hF rfl rfl rfl (wn_none rfl) (.inr hSS) (yl_move hF rfl rfl) ?_
      clear hF; intro a hF
      refine ha_y 9 hF rfl rfl rfl (wn_t hF rfl rfl rfl rfl) (.inr hSS) (yl_move hF rfl rfl) ?_
      clear hF; intro a hF
      refine ha_y 13 hF rfl rfl rfl (wn_t hF rfl rfl rfl rfl) (.inr hSS) (yl_move hF rfl rfl) ?_
      clear hF; intro a hF
      refine ha_l 8 hF rfl rfl rfl (wn_t hF rfl rfl rfl rfl) hSS (yl_loadK (rs := [_, _, _]) (fun _ h => h) hF rfl rfl 0 rfl ag24 sz24 rfl rfl) ?_
      clear hF; intro a hF
      refine ha_l 10 hF rfl rfl rfl (wn_t hF rfl rfl rfl rfl) hSS (yl_loadK (rs := [_, _]) (fun _ h => h) hF rfl rfl 1 rfl ag28 sz28 rfl rfl) ?_
      clear hF; intro a hF
      refine ha_l 12 hF rfl rfl rfl (wn_t hF rfl rfl rfl rfl) hSS (yl_loadK (rs := [_, _, _]) (fun _ h => h) hF rfl rfl 0 rfl ag24 sz24 rfl rfl) ?_
      clear hF; intro a hF
      refine ha_l 14 hF rfl rfl rfl (wn_t hF rfl rfl rfl rfl) hSS (yl_loadK (rs := [_, _]) (fun _ h => h) hF rfl rfl 1 rfl ag28 sz28 rfl rfl) ?_
      clear hF; intro a hF
      refine ha_one 11 (by kernel_rfl) rfl (wn_t hF rfl rfl rfl rfl) (wp_call (vs := [_, _, _]) hF rfl rfl rfl rfl cf15 (choose_any st _ L (rm) _ F _ P _ T _ (hS.rdRo 4 rfl) (by first | omega | (simp; done)) (by first | omega | (simp; done)) (hS.rdRo 5 rfl) (by first | omega | (simp; done)) (hS.rdRo 6 rfl) (hS.rdRo 7 rfl) (by first | omega | (simp; done) | (simp; omega)) (by first | omega | (simp; done) | (simp; omega))) ?_)
      clear hF; rintro _ w ⟨rfl, hS1⟩ a hF
      replace hS := hS.callB hS1 rfl; clear hS1
      have hz463 := choose_bd st L F (rm) P T
      replace hSS := hS.sub [3, 2] (by decide) rfl (by simp)
      refine ⟨.inr hSS, ?_⟩
      refine ha_one 15 (by kernel_rfl) rfl (wn_t hF rfl rfl rfl rfl) (wp_call (vs := [_, _, _]) hF rfl rfl rfl rfl cf16 (choose2_any st _ L (rm) _ F _ P _ T _ (hS.rdRo 4 rfl) (by first | omega | (simp; done)) (by first | omega | (simp; done)) (hS.rdRo 5 rfl) (by first | omega | (simp; done)) (hS.rdRo 6 rfl) (hS.rdRo 7 rfl) (by first | omega | (simp; done) | (simp; omega)) (by first | omega | (simp; done) | (simp; omega))) ?_)
      clear hF; rintro _ w ⟨rfl, hS1⟩ a hF
      replace hS := hS.callB hS1 rfl; clear hS1
      have hz464 := choose_bd st L F (rm) P T
      replace hSS := hS.sub [3, 2] (by decide) rfl (by simp)
      refine ⟨.inr hSS, ?_⟩
      refine ha_y 16 hF rfl rfl rfl (wn_t hF rfl rfl rfl rfl) (.inr hSS) (yl_bin hF rfl rfl rfl rfl (fun _ => run_str_eql)) ?_
      clear hF; intro a hF
      replace hF := fr_set (b' := true) hF (by simp)
      refine ha_y 17 hF rfl rfl rfl (wn_none rfl) (.inr hSS) (yl_pick (u := _) (v := undef) hF rfl rfl (fun _ => rfl) (fun h => by cases h)) ?_
      clear hF; intro a hF
      refine ha_y 18 hF rfl rfl rfl (wn_none rfl) (.inr hSS) (yl_move hF rfl rfl) ?_
      clear hF; intro a hF
      refine ha_y 20 hF rfl rfl rfl (wn_t hF rfl rfl rfl rfl) (.inr hSS) (yl_move hF rfl rfl) ?_
      clear hF; intro a hF
      refine ha_y 21 hF rfl rfl rfl (wn_t hF rfl rfl rfl rfl) (.inr hSS) (yl_move hF rfl rfl) ?_
      clear hF; intro a hF
      refine ha_y 24 hF rfl rfl rfl (wn_t hF rfl rfl rfl rfl) (.inr hSS) (yl_move hF rfl rfl) ?_
      clear hF; intro a hF
      refine ha_y 25 hF rfl rfl rfl (wn_t hF rfl rfl rfl rfl) (.inr hSS) (yl_move hF rfl rfl) ?_
      clear hF; intro a hF
      refine ha_l 19 hF rfl rfl rfl (wn_t hF rfl rfl rfl rfl) hSS (yl_loadK (rs := [_, _, _]) (fun _ h => h) hF rfl rfl 0 rfl ag24 sz24 rfl rfl) ?_
      clear hF; intro a hF
      refine ha_l 23 hF rfl rfl rfl (wn_t hF rfl rfl rfl rfl) hSS (yl_loadK (rs := [_, _, _]) (fun _ h => h) hF rfl rfl 0 rfl ag24 sz24 rfl rfl) ?_
      clear hF; intro a hF
      refine ha_one 22 (by kernel_rfl) rfl (wn_t hF rfl rfl rfl rfl) (wp_call (vs := [_, _, _]) hF rfl rfl rfl rfl cf17 (perm_any st _ L (rm) _ F im _ (hS.rdRo 4 rfl) (by first | omega | (simp; done)) (by first | omega | (simp; done)) (hS.rdRo 5 rfl) (by first | omega | (simp; done)) (by first | omega | (simp; done))) ?_)
      clear hF; rintro _ w ⟨bq465, rfl, hpm466, hS1⟩ a hF
      replace hS := hS.callB hS1 rfl; clear hS1
      replace hSS := hS.sub [3, 2] (by decide) rfl (by simp)
      refine ⟨.inr hSS, ?_⟩
      refine ha_one 26 (by kernel_rfl) rfl (wn_t hF rfl rfl rfl rfl) (wp_call (vs := [_, _, _]) hF rfl rfl rfl rfl cf18 (perm2_any st _ L (rm) _ F im _ (hS.rdRo 4 rfl) (by first | omega | (simp; done)) (by first | omega | (simp; done)) (hS.rdRo 5 rfl) (by first | omega | (simp; done)) (by first | omega | (simp; done))) ?_)
      clear hF; rintro _ w ⟨bq467, rfl, hpm468, hS1⟩ a hF
      replace hS := hS.callB hS1 rfl; clear hS1
      replace hSS := hS.sub [3, 2] (by decide) rfl (by simp)
      refine ⟨.inr hSS, ?_⟩
      refine ha_y 27 hF rfl rfl rfl (wn_t hF rfl rfl rfl rfl) (.inr hSS) (yl_bin hF rfl rfl rfl rfl (fun _ => run_eqb Try.underlying4)) ?_
      clear hF; intro a hF
      replace hF := fr_set (b' := true) hF (by have h9 := Bool.eq_iff_iff.2 (hpm466.trans hpm468.symm); subst h9; simp)
      refine ha_y 28 hF rfl rfl rfl (wn_none rfl) (.inr hSS) (yl_pick (u := _) (v := undef) hF rfl rfl (fun _ => rfl) (fun h => by cases h)) ?_
      clear hF; intro a hF
      refine ha_y 29 hF rfl rfl rfl (wn_none rfl) (.inr hSS) (yl_move hF rfl rfl) ?_
      clear hF; intro a hF
      refine ha_one 30 (by kernel_rfl) rfl (wn_t hF rfl rfl rfl rfl) (wp_call (vs := []) hF rfl rfl rfl rfl cf19 (awake_any _) ?_)
      clear hF; rintro _ w ⟨rfl, hS1⟩ a hF
      replace hS := hS.callB hS1 rfl; clear hS1
      replace hSS := hS.sub [3, 2] (by decide) rfl (by simp)
      refine ⟨.inr hSS, ?_⟩
      refine ha_y 31 hF rfl rfl rfl (wn_none rfl) (.inr hSS) (yl_pick (u := _) (v := undef) hF rfl rfl (fun _ => rfl) (fun h => by cases h)) ?_
      clear hF; intro a hF
      refine ha_y 32 hF rfl rfl rfl (wn_none rfl) (.inr hSS) (yl_assign hF rfl rfl) ?_
      clear hF; intro a hF
      refine ha_done (by kernel_rfl) ?_ _
      refine then_n ?_
      refine wp_ret ?_
      refine ret_t hF rfl rfl ?_
      exact ⟨_, rfl, rfl, (hS.sub [] (by decide) (by first | rfl | simp) (by simp))⟩

end Go.Proofs.Ytlhcpeolkkadbaa

/- walks, printed by wip/gen -/
import Derived.Test.YtkejcnhfbfgphaaY4
namespace Go.Proofs.Ytkejcnhfbfgphaa
open Go.RowKit
set_option linter.unusedVariables false
set_option linter.unusedSimpArgs false

set_option maxHeartbeats 2000000 in
set_option maxRecDepth 100000 in
theorem fexact_any (r : E37) (vr : Value) (R : List E37) (n1 n2 n3 : Int) (st : ByteArray) (lv : Value) (L : List E67) (rm : Int) (i0 k s c : Int) (x : ByteArray) (fua : Bool) (bg en er dn : Int) (hf : Bool) (dl : Int) (w0 : World) (hv : Rd w0 2 lv (L).length (cells enc67 (L))) (hu : Rd w0 9 vr (R).length (cells enc37 (R))) (hz0 : st.size ≤ maxLen) (hx0 : x.size ≤ maxLen) :
  Fn Try.prog 6 #[.agg #[.int .i64 r.f0, .int .i64 r.f1, .int .i64 r.f2, .int .i64 r.f3, .int .i64 r.f4, .int .i64 r.f5, .int .i64 r.f6, .bool r.f7, .int .i64 r.f8], vr, .int .i64 n1, .int .i64 n2, .int .i64 n3, .agg #[.string st, lv, .int .i64 rm], .agg #[.int .i64 i0, .int .i64 k, .int .i64 s, .int .i64 c, .string x, .bool fua, .int .i64 bg, .int .i64 en, .int .i64 er, .int .i64 dn, .bool hf, .int .i64 dl]] w0 (fun v w' => v = .bool true ∧ Sat w0 w' []) := by
 obtain ⟨Alv, clv, rfl⟩ := Rd.form hv
 obtain ⟨Avr, cvr, rfl⟩ := Rd.form hu
 refine c_enter (N := 113) (l := [_, _, _, _, _, _, _]) Try.func6 rfl rfl (fun a w hF hS => ?_)
 replace hS := hS.addRo hu
 replace hS := hS.addRo hv
 refine c_seq ?_
 refine c_region ?_
 refine seq_wp (wn_none rfl) (wp_box (cs := #[_, _, _, _, _, _, _, _, _]) hF hS rfl rfl rfl rfl rfl ?_)
 clear hF hS; intro a w g969 hF hS
 refine seq_wp (wn_none rfl) (wp_box (cs := #[_, _, _]) hF hS rfl rfl rfl rfl rfl ?_)
 clear hF hS; intro a w g970 hF hS
 refine seq_wp (wn_none rfl) (wp_box (cs := #[_, _, _, _, _, _, _, _, _, _, _, _]) hF hS rfl rfl rfl rfl rfl ?_)
 clear hF hS; intro a w g971 hF hS
 refine asN hF rfl rfl rfl rfl rfl ?_; clear hF; intro a hF
 refine wpList_nil ?_
 refine then_n ?_
 refine c_seq ?_
 refine c_seq ?_
 refine c_region ?_
 refine seq_yl hF (wn_none rfl) rfl rfl (yl_loadK (rs := [_, _, _]) (fun _ h => h ▸ hS) hF rfl rfl 1 rfl ag43 sz43 rfl rfl) ?_; clear hF; intro a hF
 refine mvN hF rfl rfl rfl rfl rfl ?_; clear hF; intro a hF
 refine seq_yl hF (wn_none rfl) rfl rfl (yl_loadK (rs := [_, _, _, _, _, _, _, _, _, _, _, _]) (fun _ h => h ▸ hS) hF rfl rfl 0 rfl ag45 sz45 rfl rfl) ?_; clear hF; intro a hF
 refine seq_wp (wn_none rfl) (wp_call (vs := [_, _, _]) hF rfl rfl rfl rfl cf20 (few_any st _ L (rm) _ R (i0) (k) (s) (c) x fua (bg) (en) (er) (dn) hf (dl) _ (hS.rdRo 3 rfl) (hS.rdRo 4 rfl)) ?_)
 clear hF; rintro _ w ⟨rfl, hS1⟩ a hF
 replace hS := hS.callB hS1 rfl; clear hS1
 refine seq_yl hF (wn_none rfl) rfl rfl (yl_un hF rfl rfl (fun _ => run_not)) ?_; clear hF; intro a hF
 refine wpList_nil ?_
 refine then_n ?_
 refine c_cond hF rfl (fun hc972 => ?_) (fun hc972 => ?_)
 ·first | (replace hc972 := of_decide_eq_true hc972) | (replace hc972 := of_decide_eq_false (bnot_t hc972)) | (replace hc972 := bnot_t hc972) | skip
  try (have hc972x := hc972; simp only [okS, okI, okW, okP] at hc972x)
  refine c_seq ?_
  refine c_region ?_
  refine asN hF rfl rfl rfl rfl rfl ?_; clear hF; intro a hF
  refine wpList_nil ?_
  refine then_n ?_
  refine wp_ret ?_
  refine then_r ?_
  refine ret_t hF rfl rfl ?_
  exact ⟨_, rfl, rfl, (hS.sub [] (by decide) (by first | rfl | simp) (by simp))⟩
 ·first | (replace hc972 := of_decide_eq_false hc972) | (replace hc972 := of_decide_eq_true (bnot_f hc972)) | (replace hc972 := bnot_f hc972) | skip
  try (have hc972x := hc972; simp only [okS, okI, okW, okP] at hc972x)
  refine wp_skip ?_
  refine then_n ?_
  refine c_seq ?_
  refine c_region ?_
  refine mvN hF rfl rfl rfl rfl rfl ?_; clear hF; intro a hF
  refine mvN hF rfl rfl rfl rfl rfl ?_; clear hF; intro a hF
  refine mvN hF rfl rfl rfl rfl rfl ?_; clear hF; intro a hF
  refine mvN hF rfl rfl rfl rfl rfl ?_; clear hF; intro a hF
  refine seq_wp (wn_none rfl) (wp_call (vs := [_, _, _, _]) hF rfl rfl rfl rfl cf12 (step_any _ R (n1) (n2) (n3) _ (hS.rdRo 4 rfl) (by first | omega | (simp; done) | (simp; omega))) ?_)
  clear hF; rintro _ w ⟨v973, L974, er975, dn976, hf977, dl978, rfl, hp979, hS1⟩ a hF
  replace hS := hS.callB hS1 rfl; clear hS1
  obtain ⟨Av973, cv973, rfl⟩ := hS.form 0 rfl
  have hlhp979 := step_len hp979
  refine mvN hF rfl rfl rfl rfl rfl ?_; clear hF; intro a hF
  refine seq_yl hF (wn_none rfl) rfl rfl (yl_extract hF rfl rfl rfl) ?_; clear hF; intro a hF
  refine seq_yl hF (wn_none rfl) rfl rfl (yl_extract hF rfl rfl rfl) ?_; clear hF; intro a hF
  refine seq_wp (wn_none rfl) (wp_alloc (cs := #[_, _, _, _]) hF hS rfl rfl rfl zr27 rfl ?_)
  clear hF hS; intro a w g980 hF hS
  refine asN hF rfl rfl rfl rfl rfl ?_; clear hF; intro a hF
  refine seq_wp (wn_none rfl) (wp_store (cs' := #[_, _, _, _]) hF hS rfl rfl rfl rfl 0 rfl sz27 (by simp [Value.cells, Value.oneCell']) (by simp [Value.cells]) rfl ?_)
  clear hF hS; intro a w hF hS
  refine wpList_nil ?_
  refine then_n ?_
  refine c_seq ?_
  refine c_region ?_
  refine mvN hF rfl rfl rfl rfl rfl ?_; clear hF; intro a hF
  refine mvN hF rfl rfl rfl rfl rfl ?_; clear hF; intro a hF
  refine mvN hF rfl rfl rfl rfl rfl ?_; clear hF; intro a hF
  refine mvN hF rfl rfl rfl rfl rfl ?_; clear hF; intro a hF
  refine seq_wp (wn_none rfl) (wp_call (vs := [_, _, _, _]) hF rfl rfl rfl rfl cf14 (step2_any _ R (n1) (n2) (n3) _ (hS.rdRo 6 rfl) (by first | omega | (simp; done) | (simp; omega))) ?_)
  clear hF; rintro _ w ⟨v981, L982, er983, dn984, hf985, dl986, rfl, hp987, hS1⟩ a hF
  replace hS := hS.callB hS1 rfl; clear hS1
  obtain ⟨Av981, cv981, rfl⟩ := hS.form 0 rfl
  have hlhp987 := step_len hp987
  refine mvN hF rfl rfl rfl rfl rfl ?_; clear hF; intro a hF
  refine seq_yl hF (wn_none rfl) rfl rfl (yl_extract hF rfl rfl rfl) ?_; clear hF; intro a hF
  refine seq_yl hF (wn_none rfl) rfl rfl (yl_extract hF rfl rfl rfl) ?_; clear hF; intro a hF
  refine seq_wp (wn_none rfl) (wp_alloc (cs := #[_, _, _, _]) hF hS rfl rfl rfl zr27 rfl ?_)
  clear hF hS; intro a w g988 hF hS
  refine asN hF rfl rfl rfl rfl rfl ?_; clear hF; intro a hF
  refine seq_wp (wn_none rfl) (wp_store (cs' := #[_, _, _, _]) hF hS rfl rfl rfl rfl 0 rfl sz27 (by simp [Value.cells, Value.oneCell']) (by simp [Value.cells]) rfl ?_)
  clear hF hS; intro a w hF hS
  refine wpList_nil ?_
  refine then_n ?_
  refine c_seq ?_
  refine c_region ?_
  refine seq_yl hF (wn_none rfl) rfl rfl (yl_loadK (rs := [_, _, _]) (fun _ h => h ▸ hS) hF rfl rfl 5 rfl ag43 sz43 rfl rfl) ?_; clear hF; intro a hF
  refine seq_yl hF (wn_none rfl) rfl rfl (yl_loadK (rs := [_, _, _, _, _, _, _, _, _, _, _, _]) (fun _ h => h ▸ hS) hF rfl rfl 4 rfl ag45 sz45 rfl rfl) ?_; clear hF; intro a hF
  refine seq_wp (wn_none rfl) (wp_call (vs := [_, _]) hF rfl rfl rfl rfl cf21 (run_any st _ L (rm) (i0) (k) (s) (c) x fua (bg) (en) (er) (dn) hf (dl) _ (hS.rdRo 7 rfl) (by first | omega | (simp; done)) (by first | omega | (simp; done)) (by first | omega | (simp; done))) ?_)
  clear hF; rintro _ w ⟨st989, v990, Lq991, rm992, dt993, e994, rfl, hq995, hS1⟩ a hF
  replace hS := hS.callB hS1 rfl; clear hS1
  obtain ⟨Av990, cv990, rfl⟩ := hS.form 0 rfl
  have hq995b := runF_bd (by omega) (by omega) hq995
  refine mvN hF rfl rfl rfl rfl rfl ?_; clear hF; intro a hF
  refine seq_yl hF (wn_none rfl) rfl rfl (yl_extract hF rfl rfl rfl) ?_; clear hF; intro a hF
  refine seq_yl hF (wn_none rfl) rfl rfl (yl_extract hF rfl rfl rfl) ?_; clear hF; intro a hF
  refine seq_yl hF (wn_none rfl) rfl rfl (yl_extract hF rfl rfl rfl) ?_; clear hF; intro a hF
  refine seq_wp (wn_none rfl) (wp_alloc (cs := #[_, _, _]) hF hS rfl rfl rfl zr43 rfl ?_)
  clear hF hS; intro a w g996 hF hS
  refine seq_wp (wn_none rfl) (wp_store (cs' := #[_, _, _]) hF hS rfl rfl rfl rfl 0 rfl sz43 (by simp [Value.cells, Value.oneCell']) (by simp [Value.cells]) rfl ?_)
  clear hF hS; intro a w hF hS
  refine asN hF rfl rfl rfl rfl rfl ?_; clear hF; intro a hF
  refine asN hF rfl rfl rfl rfl rfl ?_; clear hF; intro a hF
  refine wpList_nil ?_
  refine then_n ?_
  refine c_seq ?_
  refine c_region ?_
  refine seq_yl hF (wn_none rfl) rfl rfl (yl_loadK (rs := [_, _, _]) (fun _ h => h ▸ hS) hF rfl rfl 7 rfl ag43 sz43 rfl rfl) ?_; clear hF; intro a hF
  refine seq_yl hF (wn_none rfl) rfl rfl (yl_loadK (rs := [_, _, _, _, _, _, _, _, _, _, _, _]) (fun _ h => h ▸ hS) hF rfl rfl 6 rfl ag45 sz45 rfl rfl) ?_; clear hF; intro a hF
  refine seq_wp (wn_none rfl) (wp_call (vs := [_, _]) hF rfl rfl rfl rfl cf22 (carry_any st _ L (rm) (i0) (k) (s) (c) x fua (bg) (en) (er) (dn) hf (dl) _ (hS.rdRo 9 rfl) (by first | omega | (simp; done)) (by first | omega | (simp; done)) (by first | omega | (simp; done))) ?_)
  clear hF; rintro _ w ⟨st997, v998, Lq999, rm1000, dt1001, e1002, ow, rfl, hq1003, how, hS1⟩ a hF
  replace hS := hS.carry 9 rfl hS1 (by rcases how with h9 | ⟨h9, h8⟩ | h9; exact .inl h9; exact .inr (.inl ⟨h9, by rw [h8], by rw [h8]⟩); exact .inr (.inr h9)); clear hS1 how; obtain ⟨Av998, cv998, rfl⟩ := (hS.rdRo 0 rfl).form
  have h8 := hq995.symm.trans hq1003; injection h8 with e1 h8; injection h8 with e2 h8; injection h8 with e3 h8; injection h8 with e4 e5; subst e1 e2 e3 e4 e5
  refine mvN hF rfl rfl rfl rfl rfl ?_; clear hF; intro a hF
  refine seq_yl hF (wn_none rfl) rfl rfl (yl_extract hF rfl rfl rfl) ?_; clear hF; intro a hF
  refine seq_yl hF (wn_none rfl) rfl rfl (yl_extract hF rfl rfl rfl) ?_; clear hF; intro a hF
  refine seq_yl hF (wn_none rfl) rfl rfl (yl_extract hF rfl rfl rfl) ?_; clear hF; intro a hF
  refine seq_wp (wn_none rfl) (wp_alloc (cs := #[_, _, _]) hF hS rfl rfl rfl zr43 rfl ?_)
  clear hF hS; intro a w g1004 hF hS
  refine seq_wp (wn_none rfl) (wp_store (cs' := #[_, _, _]) hF hS rfl rfl rfl rfl 0 rfl sz43 (by simp [Value.cells, Value.oneCell']) (by simp [Value.cells]) rfl ?_)
  clear hF hS; intro a w hF hS
  refine asN hF rfl rfl rfl rfl rfl ?_; clear hF; intro a hF
  refine asN hF rfl rfl rfl rfl rfl ?_; clear hF; intro a hF
  refine wpList_nil ?_
  refine then_n ?_
  refine c_seq ?_
  refine ha_startS hS [10, 6, 4, 2, 0] 54 (by kernel_rfl) ?_; clear hS; intro w hS
  have hSS := hS.sub [10, 6, 4, 2, 0] (by decide) rfl (by simp)
  refine ha_l 0 hF rfl rfl rfl (wn_none rfl) hSS (yl_loadK (rs := [_, _, _, _, _, _, _, _, _]) (fun _ h => h) hF rfl rfl 0 rfl ag37 sz37 rfl rfl) ?_; clear hF; intro a hF
  refine ha_l 2 hF rfl rfl rfl (wn_none rfl) hSS (yl_loadK (rs := [_, _, _, _, _, _, _, _, _]) (fun _ h => h) hF rfl rfl 0 rfl ag37 sz37 rfl rfl) ?_; clear hF; intro a hF
  refine ha_one 1 (by kernel_rfl) rfl (wn_none rfl) (wp_call (vs := [_]) hF rfl rfl rfl rfl cf23 (valid_any r _) ?_)
  clear hF; rintro _ w ⟨rfl, hS1⟩ a hF
  replace hS := hS.callB hS1 rfl; clear hS1
  replace hSS := hS.sub [10, 6, 4, 2, 0] (by decide) rfl (by simp)
  refine ⟨.inr hSS, ?_⟩
  refine ha_one 3 (by kernel_rfl) rfl (wn_none rfl) (wp_call (vs := [_]) hF rfl rfl rfl rfl cf24 (valid2_any r _) ?_)
  clear hF; rintro _ w ⟨rfl, hS1⟩ a hF
  replace hS := hS.callB hS1 rfl; clear hS1
  replace hSS := hS.sub [10, 6, 4, 2, 0] (by decide) rfl (by simp)
  refine ⟨.inr hSS, ?_⟩
  refine ha_y 4 hF rfl rfl rfl (wn_none rfl) (.inr hSS) (yl_bin hF rfl rfl rfl rfl (fun _ => run_eqb Try.underlying4)) ?_; clear hF; intro a hF
  replace hF := fr_set (b' := true) hF (by simp)
  refine ha_y 5 hF rfl rfl rfl (wn_none rfl) (.inr hSS) (yl_move hF rfl rfl) ?_; clear hF; intro a hF
  refine ha_y 7 hF rfl rfl rfl (wn_t hF rfl rfl rfl rfl) (.inr hSS) (yl_move hF rfl rfl) ?_; clear hF; intro a hF
  refine ha_y 8 hF rfl rfl rfl (wn_t hF rfl rfl rfl rfl) (.inr hSS) (yl_move hF rfl rfl) ?_; clear hF; intro a hF
  refine ha_y 9 hF rfl rfl rfl (wn_t hF rfl rfl rfl rfl) (.inr hSS) (yl_move hF rfl rfl) ?_; clear hF; intro a hF
  refine ha_y 12 hF rfl rfl rfl (wn_t hF rfl rfl rfl rfl) (.inr hSS) (yl_move hF rfl rfl) ?_; clear hF; intro a hF
  refine ha_y 13 hF rfl rfl rfl (wn_t hF rfl rfl rfl rfl) (.inr hSS) (yl_move hF rfl rfl) ?_; clear hF; intro a hF
  refine ha_y 14 hF rfl rfl rfl (wn_t hF rfl rfl rfl rfl) (.inr hSS) (yl_move hF rfl rfl) ?_; clear hF; intro a hF
  refine ha_l 6 hF rfl rfl rfl (wn_t hF rfl rfl rfl rfl) hSS (yl_loadK (rs := [_, _, _, _, _, _, _, _, _]) (fun _ h => h) hF rfl rfl 0 rfl ag37 sz37 rfl rfl) ?_; clear hF; intro a hF
  refine ha_l 11 hF rfl rfl rfl (wn_t hF rfl rfl rfl rfl) hSS (yl_loadK (rs := [_, _, _, _, _, _, _, _, _]) (fun _ h => h) hF rfl rfl 0 rfl ag37 sz37 rfl rfl) ?_; clear hF; intro a hF
  refine ha_one 10 (by kernel_rfl) rfl (wn_t hF rfl rfl rfl rfl) (wp_call (vs := [_, _, _, _]) hF rfl rfl rfl rfl cf25 (match_any r (n1) (n2) (n3) _) ?_)
  clear hF; rintro _ w ⟨rfl, hS1⟩ a hF
  replace hS := hS.callB hS1 rfl; clear hS1
  replace hSS := hS.sub [10, 6, 4, 2, 0] (by decide) rfl (by simp)
  refine ⟨.inr hSS, ?_⟩
  refine ha_one 15 (by kernel_rfl) rfl (wn_t hF rfl rfl rfl rfl) (wp_call (vs := [_, _, _, _]) hF rfl rfl rfl rfl cf26 (match2_any r (n1) (n2) (n3) _) ?_)
  clear hF; rintro _ w ⟨rfl, hS1⟩ a hF
  replace hS := hS.callB hS1 rfl; clear hS1
  replace hSS := hS.sub [10, 6, 4, 2, 0] (by decide) rfl (by simp)
  refine ⟨.inr hSS, ?_⟩
  refine ha_y 16 hF rfl rfl rfl (wn_t hF rfl rfl rfl rfl) (.inr hSS) (yl_bin hF rfl rfl rfl rfl (fun _ => run_eqb Try.underlying4)) ?_; clear hF; intro a hF
  replace hF := fr_set (b' := true) hF (by simp)
  refine ha_y 17 hF rfl rfl rfl (wn_none rfl) (.inr hSS) (pkT hF rfl rfl rfl) ?_; clear hF; intro a hF
  refine ha_y 18 hF rfl rfl rfl (wn_none rfl) (.inr hSS) (yl_move hF rfl rfl) ?_; clear hF; intro a hF
  refine ha_y 19 hF rfl rfl rfl (wn_t hF rfl rfl rfl rfl) (.inr hSS) (yl_move hF rfl rfl) ?_; clear hF; intro a hF
  refine ha_y 20 hF rfl rfl rfl (wn_t hF rfl rfl rfl rfl) (.inr hSS) (yl_move hF rfl rfl) ?_; clear hF; intro a hF
  refine ha_one 21 (by kernel_rfl) rfl (wn_t hF rfl rfl rfl rfl) (wp_call (vs := [_, _]) hF rfl rfl rfl rfl cf15 (sameR_any _ _ L974 L982 _ (hS.rdRow 7 rfl) (hS.rdRow 5 rfl) (by first | omega | (simp; done) | (simp; omega))) ?_)
  clear hF; rintro _ w ⟨rfl, hS1⟩ a hF
  replace hS := hS.callB hS1 rfl; clear hS1
  replace hSS := hS.sub [10, 6, 4, 2, 0] (by decide) rfl (by simp)
  refine ⟨.inr hSS, ?_⟩
  replace hF := fr_set (b' := true) hF (by rw [decide_eq_true_eq]; exact congrArg Prod.fst (hp979.symm.trans hp987))
  refine ha_y 22 hF rfl rfl rfl (wn_none rfl) (.inr hSS) (pkT hF rfl rfl rfl) ?_; clear hF; intro a hF
  refine ha_y 23 hF rfl rfl rfl (wn_none rfl) (.inr hSS) (yl_move hF rfl rfl) ?_; clear hF; intro a hF
  refine ha_l 24 hF rfl rfl rfl (wn_t hF rfl rfl rfl rfl) hSS (yl_loadK (rs := [_, _, _, _]) (fun _ h => h) hF rfl rfl 1 rfl ag27 sz27 rfl rfl) ?_; clear hF; intro a hF
  refine ha_l 25 hF rfl rfl rfl (wn_t hF rfl rfl rfl rfl) hSS (yl_loadK (rs := [_, _, _, _]) (fun _ h => h) hF rfl rfl 2 rfl ag27 sz27 rfl rfl) ?_; clear hF; intro a hF
  refine ha_y 26 hF rfl rfl rfl (wn_t hF rfl rfl rfl rfl) (.inr hSS) (yl_binA hF rfl rfl rfl (fun w => run_eqGuard_agg w _ _ _ _ _ _ hm27) (fun w => eqs27 _ _ _ _ _ _ _ _ w)) ?_; clear hF; intro a hF
  replace hF := fr_set (b' := true) hF (by have h9 := congrArg Prod.snd (hp979.symm.trans hp987); injection h9 with h1 h2 h3 h4; rw [decide_eq_true_eq]; exact ⟨h1, h2, h3, h4⟩)
  refine ha_y 27 hF rfl rfl rfl (wn_none rfl) (.inr hSS) (pkT hF rfl rfl rfl) ?_; clear hF; intro a hF
  refine ha_y 28 hF rfl rfl rfl (wn_none rfl) (.inr hSS) (yl_move hF rfl rfl) ?_; clear hF; intro a hF
  refine ha_y 29 hF rfl rfl rfl (wn_t hF rfl rfl rfl rfl) (.inr hSS) (yl_move hF rfl rfl) ?_; clear hF; intro a hF
  refine ha_y 31 hF rfl rfl rfl (wn_t hF rfl rfl rfl rfl) (.inr hSS) (yl_move hF rfl rfl) ?_; clear hF; intro a hF
  refine ha_one 30 (by kernel_rfl) rfl (wn_t hF rfl rfl rfl rfl) (wp_call (vs := [_]) hF rfl rfl rfl rfl cf16 (quiet_any _ R _ (hS.rdRo 12 rfl) (by first | omega | (simp; done) | (simp; omega))) ?_)
  clear hF; rintro _ w ⟨rfl, hS1⟩ a hF
  replace hS := hS.callB hS1 rfl; clear hS1
  replace hSS := hS.sub [10, 6, 4, 2, 0] (by decide) rfl (by simp)
  refine ⟨.inr hSS, ?_⟩
  refine ha_one 32 (by kernel_rfl) rfl (wn_t hF rfl rfl rfl rfl) (wp_call (vs := [_]) hF rfl rfl rfl rfl cf17 (quiet2_any _ R _ (hS.rdRo 12 rfl) (by first | omega | (simp; done) | (simp; omega))) ?_)
  clear hF; rintro _ w ⟨rfl, hS1⟩ a hF
  replace hS := hS.callB hS1 rfl; clear hS1
  replace hSS := hS.sub [10, 6, 4, 2, 0] (by decide) rfl (by simp)
  refine ⟨.inr hSS, ?_⟩
  refine ha_y 33 hF rfl rfl rfl (wn_t hF rfl rfl rfl rfl) (.inr hSS) (yl_bin hF rfl rfl rfl rfl (fun _ => run_eqb Try.underlying4)) ?_; clear hF; intro a hF
  replace hF := fr_set (b' := true) hF (by simp)
  refine ha_y 34 hF rfl rfl rfl (wn_none rfl) (.inr hSS) (pkT hF rfl rfl rfl) ?_; clear hF; intro a hF
  refine ha_y 35 hF rfl rfl rfl (wn_none rfl) (.inr hSS) (yl_move hF rfl rfl) ?_; clear hF; intro a hF
  refine ha_l 36 hF rfl rfl rfl (wn_t hF rfl rfl rfl rfl) hSS (yl_loadK (rs := [_, _, _]) (fun _ h => h) hF rfl rfl 3 rfl ag43 sz43 rfl rfl) ?_; clear hF; intro a hF
  refine ha_l 37 hF rfl rfl rfl (wn_t hF rfl rfl rfl rfl) hSS (yl_loadK (rs := [_, _, _]) (fun _ h => h) hF rfl rfl 4 rfl ag43 sz43 rfl rfl) ?_; clear hF; intro a hF
  refine ha_one 38 (by kernel_rfl) rfl (wn_t hF rfl rfl rfl rfl) (wp_call (vs := [_, _]) hF rfl rfl rfl rfl cf27 (sameD_any st989 _ Lq991 (rm992) st989 _ Lq991 (rm992) _ (hS.rdRow 3 rfl) (hS.rdRo 1 rfl) (by first | omega | (simp; done)) (by first | omega | (simp; done))) ?_)
  clear hF; rintro _ w ⟨rfl, hS1⟩ a hF
  replace hS := hS.callB hS1 rfl; clear hS1
  replace hSS := hS.sub [10, 6, 4, 2, 0] (by decide) rfl (by simp)
  refine ⟨.inr hSS, ?_⟩
  replace hF := fr_set (b' := true) hF (by simp)
  refine ha_y 39 hF rfl rfl rfl (wn_none rfl) (.inr hSS) (pkT hF rfl rfl rfl) ?_; clear hF; intro a hF
  refine ha_y 40 hF rfl rfl rfl (wn_none rfl) (.inr hSS) (yl_move hF rfl rfl) ?_; clear hF; intro a hF
  refine ha_y 41 hF rfl rfl rfl (wn_t hF rfl rfl rfl rfl) (.inr hSS) (yl_move hF rfl rfl) ?_; clear hF; intro a hF
  refine ha_y 42 hF rfl rfl rfl (wn_t hF rfl rfl rfl rfl) (.inr hSS) (yl_move hF rfl rfl) ?_; clear hF; intro a hF
  refine ha_y 43 hF rfl rfl rfl (wn_t hF rfl rfl rfl rfl) (.inr hSS) (yl_bin hF rfl rfl rfl rfl (fun _ => run_str_eql)) ?_; clear hF; intro a hF
  replace hF := fr_set (b' := true) hF (by simp)
  refine ha_y 44 hF rfl rfl rfl (wn_none rfl) (.inr hSS) (pkT hF rfl rfl rfl) ?_; clear hF; intro a hF
  refine ha_y 45 hF rfl rfl rfl (wn_none rfl) (.inr hSS) (yl_move hF rfl rfl) ?_; clear hF; intro a hF
  refine ha_y 46 hF rfl rfl rfl (wn_t hF rfl rfl rfl rfl) (.inr hSS) (yl_move hF rfl rfl) ?_; clear hF; intro a hF
  refine ha_y 47 hF rfl rfl rfl (wn_t hF rfl rfl rfl rfl) (.inr hSS) (yl_move hF rfl rfl) ?_; clear hF; intro a hF
  refine ha_y 48 hF rfl rfl rfl (wn_t hF rfl rfl rfl rfl) (.inr hSS) (yl_bin hF rfl rfl rfl rfl (fun _ => run_eql)) ?_; clear hF; intro a hF
  replace hF := fr_set (b' := true) hF (by simp)
  refine ha_y 49 hF rfl rfl rfl (wn_none rfl) (.inr hSS) (pkT hF rfl rfl rfl) ?_; clear hF; intro a hF
  refine ha_y 50 hF rfl rfl rfl (wn_none rfl) (.inr hSS) (yl_move hF rfl rfl) ?_; clear hF; intro a hF
  refine ha_one 51 (by kernel_rfl) rfl (wn_t hF rfl rfl rfl rfl) (wp_call (vs := []) hF rfl rfl rfl rfl cf18 (awake_any _) ?_)
  clear hF; rintro _ w ⟨rfl, hS1⟩ a hF
  replace hS := hS.callB hS1 rfl; clear hS1
  replace hSS := hS.sub [10, 6, 4, 2, 0] (by decide) rfl (by simp)
  refine ⟨.inr hSS, ?_⟩
  refine ha_y 52 hF rfl rfl rfl (wn_none rfl) (.inr hSS) (pkT hF rfl rfl rfl) ?_; clear hF; intro a hF
  refine ha_y 53 hF rfl rfl rfl (wn_none rfl) (.inr hSS) (yl_assign hF rfl rfl) ?_; clear hF; intro a hF
  refine ha_done (by kernel_rfl) ?_ _
  refine then_n ?_
  refine wp_ret ?_
  refine ret_t hF rfl rfl ?_
  exact ⟨_, rfl, rfl, (hS.sub [] (by decide) (by first | rfl | simp) (by simp))⟩

end Go.Proofs.Ytkejcnhfbfgphaa

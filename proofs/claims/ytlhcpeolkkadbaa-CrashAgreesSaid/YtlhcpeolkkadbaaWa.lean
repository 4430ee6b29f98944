/- walks, printed by wip/gen -/
import Derived.Test.YtlhcpeolkkadbaaW2
import Derived.Test.YtlhcpeolkkadbaaPA
namespace Go.Proofs.Ytlhcpeolkkadbaa
open Go.RowKit
set_option linter.unusedVariables false
set_option linter.unusedSimpArgs false

set_option maxRecDepth 100000 in
theorem csecs_any (st : ByteArray) (lv : Value) (rm : Int) (w0 : World) (hz : (st.size : Int) ≤ 9223372036854775807) :
    Fn Try.prog 35 #[.agg #[.string st, lv, .int .i64 rm]] w0 (fun v w' => v = .int .i64 ((st.size : Int) / 8) ∧ Sat w0 w' []) := by
  refine c_enter (N := 7) (l := [_]) Try.func35 rfl rfl (fun a w hF hS => ?_)
  refine c_seq ?_
  refine c_region ?_
  refine seq_wp (wn_none rfl) (wp_box (cs := #[_, _, _]) hF hS rfl rfl rfl rfl rfl ?_)
  clear hF hS; intro a w g224 hF hS
  refine seq_yl hF (wn_none rfl) rfl rfl (yl_assign hF rfl rfl) ?_
  clear hF; intro a hF
  refine wpList_nil ?_
  refine then_n ?_
  refine c_seq ?_
  refine c_region ?_
  refine seq_yl hF (wn_none rfl) rfl rfl (yl_fieldAddr hF rfl rfl (fun w => by kernel_rfl : ∀ w, (Instr.fieldAt 24 (.pointer (some ⟨g224, 0, none⟩)) 0).run Try.prog w = .ok (.pointer (some ⟨g224, 0, none⟩)) w)) ?_
  clear hF; intro a hF
  refine seq_yl hF (wn_none rfl) rfl rfl (yl_load (fun _ h => h ▸ hS) hF rfl rfl 0 rfl ag9 rfl) ?_
  clear hF; intro a hF
  refine seq_yl hF (wn_none rfl) rfl rfl (yl_len hF rfl rfl (fun _ => run_lenStr Try.underlying9)) ?_
  clear hF; intro a hF
  refine seq_yl hF (wn_none rfl) rfl rfl (yl_bin hF rfl rfl rfl rfl (fun _ => run_quoN (by omega) (by omega) (by omega))) ?_
  clear hF; intro a hF
  refine seq_yl hF (wn_none rfl) rfl rfl (yl_assign hF rfl rfl) ?_
  clear hF; intro a hF
  refine wpList_nil ?_
  refine then_n ?_
  refine wp_ret ?_
  refine ret_t hF rfl rfl ?_
  exact ⟨_, rfl, rfl, (hS.sub [] (by decide) (by first | rfl | simp) (by simp))⟩

set_option maxRecDepth 100000 in
theorem clSpec (w0 w : World) (H : List Chunk) (j gd : Nat) (st : ByteArray) (lv : Value) (rm : Int) (x : E59) (hj : H[j]? = some (.box gd 24 #[.string st, lv, .int .i64 rm])) (hz : (st.size : Int) ≤ 9223372036854775807) (hI : okI (st.size : Int)) (hS : Sat w0 w H) :
    Fn Try.prog 53 #[.agg #[.int .i64 x.f0, .string x.f1], .pointer (some ⟨gd, 0, none⟩)] w (fun v w' => v = .bool (!(decide (okP (st.size : Int) x))) ∧ Sat w0 w' H) := by
  refine c_enterS (N := 20) (l := [_, _]) Try.func53 rfl rfl (fun a hF => ?_)
  refine c_seq ?_
  refine c_region ?_
  refine seq_wp (wn_none rfl) (wp_box (cs := #[_, _]) hF hS rfl rfl rfl rfl rfl ?_)
  clear hF hS; intro a w g225 hF hS
  refine seq_yl hF (wn_none rfl) rfl rfl (yl_assign hF rfl rfl) ?_
  clear hF; intro a hF
  refine wpList_nil ?_
  refine then_n ?_
  refine c_seq ?_
  refine ha_startW hS 17 (by kernel_rfl) ?_; clear hS; intro w hS
  have hSS := hS
  refine ha_y 0 hF rfl rfl rfl (wn_none rfl) (.inr hSS) (yl_fieldAddr hF rfl rfl (fun w => by kernel_rfl : ∀ w, (Instr.fieldAt 59 (.pointer (some ⟨g225, 0, none⟩)) 0).run Try.prog w = .ok (.pointer (some ⟨g225, 0, none⟩)) w)) ?_
  clear hF; intro a hF
  refine ha_l 1 hF rfl rfl rfl (wn_none rfl) hSS (yl_load (fun _ h => h) hF rfl rfl 0 rfl ag3 rfl) ?_
  clear hF; intro a hF
  refine ha_y 2 hF rfl rfl rfl (wn_none rfl) (.inr hSS) (yl_bin hF rfl rfl rfl rfl (fun _ => run_lss)) ?_
  clear hF; intro a hF
  refine ha_y 3 hF rfl rfl rfl (wn_none rfl) (.inr hSS) (yl_move hF rfl rfl) ?_
  clear hF; intro a hF
  refine fr_split hF (fun hc226 hF => ?_) (fun hc226 hF => ?_)
  · first | (replace hc226 := of_decide_eq_true hc226) | (replace hc226 := of_decide_eq_false (bnot_t hc226)) | (subst hc226) | (replace hc226 := bnot_t hc226; subst hc226) | (replace hc226 := bnot_t hc226) | skip
    try (have hc226x := hc226; simp only [okS, okI, okW, okP] at hc226x)
    refine ha_s 4 hF rfl rfl rfl (wn_f hF rfl rfl rfl rfl) (.inr hSS) ?_
    clear hF; intro a hF
    refine ha_s 5 hF rfl rfl rfl (wn_f hF rfl rfl rfl rfl) (.inr hSS) ?_
    clear hF; intro a hF
    refine ha_s 6 hF rfl rfl rfl (wn_f hF rfl rfl rfl rfl) (.inr hSS) ?_
    clear hF; intro a hF
    refine ha_s 7 hF rfl rfl rfl (wn_f hF rfl rfl rfl rfl) (.inr hSS) ?_
    clear hF; intro a hF
    refine ha_s 8 hF rfl rfl rfl (wn_f hF rfl rfl rfl rfl) (.inr hSS) ?_
    clear hF; intro a hF
    refine ha_y 9 hF rfl rfl rfl (wn_none rfl) (.inr hSS) (yl_pick (u := _) (v := undef) hF rfl rfl (fun _ => rfl) (fun h => by cases h)) ?_
    clear hF; intro a hF
    refine ha_y 10 hF rfl rfl rfl (wn_none rfl) (.inr hSS) (yl_move hF rfl rfl) ?_
    clear hF; intro a hF
    refine ha_s 11 hF rfl rfl rfl (wn_f hF rfl rfl rfl rfl) (.inr hSS) ?_
    clear hF; intro a hF
    refine ha_s 12 hF rfl rfl rfl (wn_f hF rfl rfl rfl rfl) (.inr hSS) ?_
    clear hF; intro a hF
    refine ha_s 13 hF rfl rfl rfl (wn_f hF rfl rfl rfl rfl) (.inr hSS) ?_
    clear hF; intro a hF
    refine ha_s 14 hF rfl rfl rfl (wn_f hF rfl rfl rfl rfl) (.inr hSS) ?_
    clear hF; intro a hF
    refine ha_y 15 hF rfl rfl rfl (wn_none rfl) (.inr hSS) (yl_pick (u := _) (v := undef) hF rfl rfl (fun _ => rfl) (fun h => by cases h)) ?_
    clear hF; intro a hF
    refine ha_y 16 hF rfl rfl rfl (wn_none rfl) (.inr hSS) (yl_assign hF rfl rfl) ?_
    clear hF; intro a hF
    refine ha_done (by kernel_rfl) ?_ _
    refine then_n ?_
    refine wp_ret ?_
    refine ret_t hF rfl rfl ?_
    exact ⟨_, rfl, congrArg Value.bool (ndec_t (by (simp only [okP, okS, okI] at *; omega))), (hS.subT 1 [] (by decide) (by first | rfl | simp) (by simp) (by simp))⟩
  · first | (replace hc226 := of_decide_eq_false hc226) | (replace hc226 := of_decide_eq_true (bnot_f hc226)) | (subst hc226) | (replace hc226 := bnot_f hc226; subst hc226) | (replace hc226 := bnot_f hc226) | skip
    try (have hc226x := hc226; simp only [okS, okI, okW, okP] at hc226x)
    refine ha_y 4 hF rfl rfl rfl (wn_t hF rfl rfl rfl rfl) (.inr hSS) (yl_fieldAddr hF rfl rfl (fun w => by kernel_rfl : ∀ w, (Instr.fieldAt 59 (.pointer (some ⟨g225, 0, none⟩)) 0).run Try.prog w = .ok (.pointer (some ⟨g225, 0, none⟩)) w)) ?_
    clear hF; intro a hF
    refine ha_l 5 hF rfl rfl rfl (wn_t hF rfl rfl rfl rfl) hSS (yl_load (fun _ h => h) hF rfl rfl 0 rfl ag3 rfl) ?_
    clear hF; intro a hF
    refine ha_l 6 hF rfl rfl rfl (wn_t hF rfl rfl rfl rfl) hSS (yl_loadK (rs := [_, _, _]) (fun _ h => h) hF rfl rfl (j + 1) hj ag24 sz24 rfl rfl) ?_
    clear hF; intro a hF
    refine ha_one 7 (by kernel_rfl) rfl (wn_t hF rfl rfl rfl rfl) (wp_call (vs := [_]) hF rfl rfl rfl rfl cf35 (csecs_any st _ _ _ (by omega)) ?_)
    clear hF; rintro _ w ⟨rfl, hS1⟩ a hF
    replace hS := hS.callB hS1 rfl; clear hS1
    replace hSS := hS; refine ⟨.inr hSS, ?_⟩
    refine ha_y 8 hF rfl rfl rfl (wn_t hF rfl rfl rfl rfl) (.inr hSS) (yl_bin hF rfl rfl rfl rfl (fun _ => run_geq)) ?_
    clear hF; intro a hF
    refine ha_y 9 hF rfl rfl rfl (wn_none rfl) (.inr hSS) (yl_pick (u := _) (v := undef) hF rfl rfl (fun h => by cases h) (fun _ => rfl)) ?_
    clear hF; intro a hF
    refine ha_y 10 hF rfl rfl rfl (wn_none rfl) (.inr hSS) (yl_move hF rfl rfl) ?_
    clear hF; intro a hF
    refine fr_split hF (fun hc227 hF => ?_) (fun hc227 hF => ?_)
    · first | (replace hc227 := of_decide_eq_true hc227) | (replace hc227 := of_decide_eq_false (bnot_t hc227)) | (subst hc227) | (replace hc227 := bnot_t hc227; subst hc227) | (replace hc227 := bnot_t hc227) | skip
      try (have hc227x := hc227; simp only [okS, okI, okW, okP] at hc227x)
      refine ha_s 11 hF rfl rfl rfl (wn_f hF rfl rfl rfl rfl) (.inr hSS) ?_
      clear hF; intro a hF
      refine ha_s 12 hF rfl rfl rfl (wn_f hF rfl rfl rfl rfl) (.inr hSS) ?_
      clear hF; intro a hF
      refine ha_s 13 hF rfl rfl rfl (wn_f hF rfl rfl rfl rfl) (.inr hSS) ?_
      clear hF; intro a hF
      refine ha_s 14 hF rfl rfl rfl (wn_f hF rfl rfl rfl rfl) (.inr hSS) ?_
      clear hF; intro a hF
      refine ha_y 15 hF rfl rfl rfl (wn_none rfl) (.inr hSS) (yl_pick (u := _) (v := undef) hF rfl rfl (fun _ => rfl) (fun h => by cases h)) ?_
      clear hF; intro a hF
      refine ha_y 16 hF rfl rfl rfl (wn_none rfl) (.inr hSS) (yl_assign hF rfl rfl) ?_
      clear hF; intro a hF
      refine ha_done (by kernel_rfl) ?_ _
      refine then_n ?_
      refine wp_ret ?_
      refine ret_t hF rfl rfl ?_
      exact ⟨_, rfl, congrArg Value.bool (ndec_t (by (simp only [okP, okS, okI] at *; omega))), (hS.subT 1 [] (by decide) (by first | rfl | simp) (by simp) (by simp))⟩
    · first | (replace hc227 := of_decide_eq_false hc227) | (replace hc227 := of_decide_eq_true (bnot_f hc227)) | (subst hc227) | (replace hc227 := bnot_f hc227; subst hc227) | (replace hc227 := bnot_f hc227) | skip
      try (have hc227x := hc227; simp only [okS, okI, okW, okP] at hc227x)
      refine ha_y 11 hF rfl rfl rfl (wn_t hF rfl rfl rfl rfl) (.inr hSS) (yl_fieldAddr hF rfl rfl (fun w => by kernel_rfl : ∀ w, (Instr.fieldAt 59 (.pointer (some ⟨g225, 0, none⟩)) 1).run Try.prog w = .ok (.pointer (some ⟨g225, 1, none⟩)) w)) ?_
      clear hF; intro a hF
      refine ha_l 12 hF rfl rfl rfl (wn_t hF rfl rfl rfl rfl) hSS (yl_load (fun _ h => h) hF rfl rfl 0 rfl ag9 rfl) ?_
      clear hF; intro a hF
      refine ha_y 13 hF rfl rfl rfl (wn_t hF rfl rfl rfl rfl) (.inr hSS) (yl_len hF rfl rfl (fun _ => run_lenStr Try.underlying9)) ?_
      clear hF; intro a hF
      refine ha_y 14 hF rfl rfl rfl (wn_t hF rfl rfl rfl rfl) (.inr hSS) (yl_bin hF rfl rfl rfl rfl (fun _ => run_neq)) ?_
      clear hF; intro a hF
      refine ha_y 15 hF rfl rfl rfl (wn_none rfl) (.inr hSS) (yl_pick (u := _) (v := undef) hF rfl rfl (fun h => by cases h) (fun _ => rfl)) ?_
      clear hF; intro a hF
      refine ha_y 16 hF rfl rfl rfl (wn_none rfl) (.inr hSS) (yl_assign hF rfl rfl) ?_
      clear hF; intro a hF
      refine ha_done (by kernel_rfl) ?_ _
      refine then_n ?_
      refine wp_ret ?_
      refine ret_t hF rfl rfl ?_
      exact ⟨_, rfl, congrArg Value.bool ((dec_d (q := ¬ (okP (st.size : Int) x)) (by constructor <;> intro _ <;> (simp only [okP, okS, okI] at *; omega))).trans decide_not), (hS.subT 1 [] (by decide) (by first | rfl | simp) (by simp) (by simp))⟩

set_option maxRecDepth 100000 in
theorem spec_any (st : ByteArray) (lv : Value) (L : List E59) (rm : Int) (fv : Value) (F : List E59) (w0 : World) (hv : Rd w0 2 lv (L).length (cells enc59 (L))) (hz : (st.size : Int) ≤ 9223372036854775807) (hL : L.length ≤ 1000000) (hf : Rd w0 2 fv (F).length (cells enc59 (F))) (hF0 : F.length ≤ 1000000) :
    Fn Try.prog 34 #[.agg #[.string st, lv, .int .i64 rm], fv] w0 (fun v w' => v = .bool (decide (okC st L F rm)) ∧ Sat w0 w' []) := by
  obtain ⟨Alv, clv, rfl⟩ := Rd.form hv
  obtain ⟨Afv, cfv, rfl⟩ := Rd.form hf
  refine c_enter (N := 13) (l := [_, _]) Try.func34 rfl rfl (fun a w hF hS => ?_)
  replace hS := hS.addRo hf
  replace hS := hS.addRo hv
  refine c_seq ?_
  refine c_region ?_
  refine seq_wp (wn_none rfl) (wp_box (cs := #[_, _, _]) hF hS rfl rfl rfl rfl rfl ?_)
  clear hF hS; intro a w g228 hF hS
  refine seq_yl hF (wn_none rfl) rfl rfl (yl_assign hF rfl rfl) ?_
  clear hF; intro a hF
  refine wpList_nil ?_
  refine then_n ?_
  refine c_seq ?_
  refine c_region ?_
  refine seq_yl hF (wn_none rfl) rfl rfl (yl_loadK (rs := [_, _, _]) (fun _ h => h ▸ hS) hF rfl rfl 0 rfl ag24 sz24 rfl rfl) ?_
  clear hF; intro a hF
  refine seq_wp (wn_none rfl) (wp_call (vs := [_]) hF rfl rfl rfl rfl cf51 (dValid_any st _ L (rm) _ (hS.rdRo 1 rfl) (by first | omega | (simp; done)) (by first | omega | (simp; done))) ?_)
  clear hF; rintro _ w ⟨rfl, hS1⟩ a hF
  replace hS := hS.callB hS1 rfl; clear hS1
  refine seq_yl hF (wn_none rfl) rfl rfl (yl_move hF rfl rfl) ?_
  clear hF; intro a hF
  refine fr_split hF (fun hc229 hF => ?_) (fun hc229 hF => ?_)
  · first | (replace hc229 := of_decide_eq_true hc229) | (replace hc229 := of_decide_eq_false (bnot_t hc229)) | (subst hc229) | (replace hc229 := bnot_t hc229; subst hc229) | (replace hc229 := bnot_t hc229) | skip
    try (have hc229x := hc229; simp only [okS, okI, okW, okP] at hc229x)
    have hd9 : okD st L rm := by assumption
    have hI9 := hd9.1
    refine seq_yl hF (wn_t hF rfl rfl rfl rfl) rfl rfl (yl_move hF rfl rfl) ?_
    clear hF; intro a hF
    refine seq_yl hF (wn_t hF rfl rfl rfl rfl) rfl rfl (yl_makeFunc (vs := [_]) hF rfl rfl) ?_
    clear hF; intro a hF
    refine seq_wp (wn_t hF rfl rfl rfl rfl) (wp_call (vs := [_, _]) hF rfl rfl rfl rfl cf52 (containsP_any (k := 53) (caps := [.pointer (some ⟨g228, 0, none⟩)]) (p := (fun p : E59 => !(decide (okP ((st).size : Int) p)))) _ _ _ F cf53 (fun x w h => clSpec _ _ _ 0 _ _ _ _ x rfl (by omega) (by assumption) h) (fun w h => Sat.rdRo h 2 rfl) hS (by first | omega | (simp; done) | (simp; omega))) ?_)
    clear hF hS; rintro _ w ⟨rfl, hS⟩ a hF
    refine seq_yl hF (wn_t hF rfl rfl rfl rfl) rfl rfl (yl_un hF rfl rfl (fun _ => run_not)) ?_
    clear hF; intro a hF
    refine seq_yl hF (wn_none rfl) rfl rfl (yl_pick (u := _) (v := undef) hF rfl rfl (fun _ => rfl) (fun h => by cases h)) ?_
    clear hF; intro a hF
    refine seq_yl hF (wn_none rfl) rfl rfl (yl_assign hF rfl rfl) ?_
    clear hF; intro a hF
    refine wpList_nil ?_
    refine then_n ?_
    refine wp_ret ?_
    refine ret_t hF rfl rfl ?_
    exact ⟨_, rfl, congrArg Value.bool (spec_iff hd9), (hS.sub [] (by decide) (by first | rfl | simp) (by simp))⟩
  · first | (replace hc229 := of_decide_eq_false hc229) | (replace hc229 := of_decide_eq_true (bnot_f hc229)) | (subst hc229) | (replace hc229 := bnot_f hc229; subst hc229) | (replace hc229 := bnot_f hc229) | skip
    try (have hc229x := hc229; simp only [okS, okI, okW, okP] at hc229x)
    refine seq_skip hF (wn_f hF rfl rfl rfl rfl) rfl rfl ?_
    clear hF; intro a hF
    refine seq_skip hF (wn_f hF rfl rfl rfl rfl) rfl rfl ?_
    clear hF; intro a hF
    refine seq_skip hF (wn_f hF rfl rfl rfl rfl) rfl rfl ?_
    clear hF; intro a hF
    refine seq_skip hF (wn_f hF rfl rfl rfl rfl) rfl rfl ?_
    clear hF; intro a hF
    refine seq_yl hF (wn_none rfl) rfl rfl (yl_pick (u := _) (v := undef) hF rfl rfl (fun h => by cases h) (fun _ => rfl)) ?_
    clear hF; intro a hF
    refine seq_yl hF (wn_none rfl) rfl rfl (yl_assign hF rfl rfl) ?_
    clear hF; intro a hF
    refine wpList_nil ?_
    refine then_n ?_
    refine wp_ret ?_
    refine ret_t hF rfl rfl ?_
    exact ⟨_, rfl, congrArg Value.bool ((by symm; rw [decide_eq_false_iff_not]; exact fun h9 => absurd h9.1 (by assumption))), (hS.sub [] (by decide) (by first | rfl | simp) (by simp))⟩

set_option maxRecDepth 100000 in
theorem flies_any (st : ByteArray) (lv : Value) (L : List E59) (rm : Int) (fv : Value) (F : List E59) (w0 : World) (hv : Rd w0 2 lv (L).length (cells enc59 (L))) (hz : (st.size : Int) ≤ 9223372036854775807) (hL : L.length ≤ 1000000) (hf : Rd w0 2 fv (F).length (cells enc59 (F))) (hF0 : F.length ≤ 1000000) :
    Fn Try.prog 37 #[.agg #[.string st, lv, .int .i64 rm], fv] w0 (fun v w' => v = .bool (decide (okC st L F rm)) ∧ Sat w0 w' []) := by
  obtain ⟨Alv, clv, rfl⟩ := Rd.form hv
  obtain ⟨Afv, cfv, rfl⟩ := Rd.form hf
  refine c_enter (N := 35) (l := [_, _]) Try.func37 rfl rfl (fun a w hF hS => ?_)
  replace hS := hS.addRo hf
  replace hS := hS.addRo hv
  refine c_seq ?_
  refine c_region ?_
  refine seq_wp (wn_none rfl) (wp_box (cs := #[_, _, _]) hF hS rfl rfl rfl rfl rfl ?_)
  clear hF hS; intro a w g230 hF hS
  refine seq_yl hF (wn_none rfl) rfl rfl (yl_assign hF rfl rfl) ?_
  clear hF; intro a hF
  refine wpList_nil ?_
  refine then_n ?_
  refine c_seq ?_
  refine c_seq ?_
  refine c_region ?_
  refine seq_yl hF (wn_none rfl) rfl rfl (yl_assign hF rfl rfl) ?_
  clear hF; intro a hF
  refine wpList_nil ?_
  refine then_n ?_
  refine wp_block ?_
  refine c_loop (fun m a w => ∃ (k : Nat), m = F.length - k ∧ (k ≤ F.length ∧ ∀ p ∈ F.take k, okP (st.size : Int) p ∨ ¬ okI (st.size : Int)) ∧ Fr 35 a [(1, .slice Afv (F).length cfv), (2, .pointer (some ⟨g230, 0, none⟩)), (5, .int .i64 ((k : Nat) : Int))] ∧ Sat w0 w (.box g230 24 #[.string st, .slice Alv (L).length clv, .int .i64 (rm)] :: .ro 2 (.slice Afv (F).length cfv) (F).length (cells enc59 (F)) :: .ro 2 (.slice Alv (L).length clv) (L).length (cells enc59 (L)) :: [])) (F.length - 0) ?_ ?_
  · exact ⟨0, rfl, ⟨Nat.zero_le _, by simp⟩, hF.to [1, 2, 5] rfl, (hS.sub [0, 2, 1] (by decide) (by first | rfl | simp) (by simp))⟩
  · clear hF hS; try clear hSS
    clear a w; rintro m a w ⟨k, rfl, hinv, hF, hS⟩
    have hk := hinv.1
    refine c_seq ?_
    refine c_seq ?_
    refine c_region ?_
    refine seq_yl hF (wn_none rfl) rfl rfl (yl_move hF rfl rfl) ?_
    clear hF; intro a hF
    refine seq_yl hF (wn_none rfl) rfl rfl (yl_move hF rfl rfl) ?_
    clear hF; intro a hF
    refine seq_yl hF (wn_none rfl) rfl rfl (yl_len hF rfl rfl (fun _ => run_lenRd sl22 (hS.rdRo 1 rfl))) ?_
    clear hF; intro a hF
    refine seq_yl hF (wn_none rfl) rfl rfl (yl_bin hF rfl rfl rfl rfl (fun _ => run_lss)) ?_
    clear hF; intro a hF
    refine wpList_nil ?_
    refine then_n ?_
    refine c_cond hF rfl (fun hc231 => ?_) (fun hc231 => ?_)
    · first | (replace hc231 := of_decide_eq_true hc231) | (replace hc231 := of_decide_eq_false (bnot_t hc231)) | (subst hc231) | (replace hc231 := bnot_t hc231; subst hc231) | (replace hc231 := bnot_t hc231) | skip
      try (have hc231x := hc231; simp only [okS, okI, okW, okP] at hc231x)
      refine wp_skip ?_
      refine then_n ?_
      refine c_seq ?_
      refine wp_block ?_
      refine c_seq ?_
      refine c_region ?_
      refine seq_yl hF (wn_none rfl) rfl rfl (yl_move hF rfl rfl) ?_
      clear hF; intro a hF
      refine seq_yl hF (wn_none rfl) rfl rfl (yl_move hF rfl rfl) ?_
      clear hF; intro a hF
      have hlt_hx232 : k < (F).length := by first | omega | (simp; done) | (simp; omega)
      obtain ⟨ad233, rfl⟩ := rd_some (hS.rdRo 1 rfl) hlt_hx232
      obtain ⟨x232, hx232⟩ := get_some hlt_hx232
      refine seq_yl hF (wn_none rfl) rfl rfl (yl_indexAddr hF rfl rfl rfl (fun _ => run_idx' sl22 sz59 (hS.rdRo 1 rfl) hlt_hx232)) ?_
      clear hF; intro a hF
      refine seq_yl hF (wn_none rfl) rfl rfl (yl_loadEl (rs := [.int .i64 (x232.f0), .string x232.f1]) hF rfl rfl ag59 sz59 rfl (fun _ h => rd_cells (enc := enc59) (by subst h; exact hS.rdRo 1 rfl) enc59_len hx232)) ?_
      clear hF; intro a hF
      refine seq_wp (wn_none rfl) (wp_alloc (cs := #[_, _]) hF hS rfl rfl rfl zr59 rfl ?_)
      clear hF hS; intro a w g234 hF hS
      refine seq_wp (wn_none rfl) (wp_store (cs' := #[_, _]) hF hS rfl rfl rfl rfl 0 rfl sz59 (by simp [Value.cells, Value.oneCell']) (by simp [Value.cells]) rfl ?_)
      clear hF hS; intro a w hF hS
      refine wpList_nil ?_
      refine then_n ?_
      refine c_seq ?_
      refine ha_startS hS [0, 1] 16 (by kernel_rfl) ?_; clear hS; intro w hS
      have hSS := hS.sub [0, 1] (by decide) rfl (by simp)
      refine ha_y 0 hF rfl rfl rfl (wn_none rfl) (.inr hSS) (yl_fieldAddr hF rfl rfl (fun w => by kernel_rfl : ∀ w, (Instr.fieldAt 59 (.pointer (some ⟨g234, 0, none⟩)) 0).run Try.prog w = .ok (.pointer (some ⟨g234, 0, none⟩)) w)) ?_
      clear hF; intro a hF
      refine ha_l 1 hF rfl rfl rfl (wn_none rfl) hSS (yl_load (fun _ h => h) hF rfl rfl 0 rfl ag3 rfl) ?_
      clear hF; intro a hF
      refine ha_y 2 hF rfl rfl rfl (wn_none rfl) (.inr hSS) (yl_bin hF rfl rfl rfl rfl (fun _ => run_lss)) ?_
      clear hF; intro a hF
      refine ha_y 3 hF rfl rfl rfl (wn_none rfl) (.inr hSS) (yl_move hF rfl rfl) ?_
      clear hF; intro a hF
      refine fr_split hF (fun hc235 hF => ?_) (fun hc235 hF => ?_)
      · first | (replace hc235 := of_decide_eq_true hc235) | (replace hc235 := of_decide_eq_false (bnot_t hc235)) | (subst hc235) | (replace hc235 := bnot_t hc235; subst hc235) | (replace hc235 := bnot_t hc235) | skip
        try (have hc235x := hc235; simp only [okS, okI, okW, okP] at hc235x)
        refine ha_s 4 hF rfl rfl rfl (wn_f hF rfl rfl rfl rfl) (.inr hSS) ?_
        clear hF; intro a hF
        refine ha_s 5 hF rfl rfl rfl (wn_f hF rfl rfl rfl rfl) (.inr hSS) ?_
        clear hF; intro a hF
        refine ha_s 6 hF rfl rfl rfl (wn_f hF rfl rfl rfl rfl) (.inr hSS) ?_
        clear hF; intro a hF
        refine ha_s 7 hF rfl rfl rfl (wn_f hF rfl rfl rfl rfl) (.inr hSS) ?_
        clear hF; intro a hF
        refine ha_s 8 hF rfl rfl rfl (wn_f hF rfl rfl rfl rfl) (.inr hSS) ?_
        clear hF; intro a hF
        refine ha_y 9 hF rfl rfl rfl (wn_none rfl) (.inr hSS) (yl_pick (u := _) (v := undef) hF rfl rfl (fun _ => rfl) (fun h => by cases h)) ?_
        clear hF; intro a hF
        refine ha_y 10 hF rfl rfl rfl (wn_none rfl) (.inr hSS) (yl_move hF rfl rfl) ?_
        clear hF; intro a hF
        refine ha_s 11 hF rfl rfl rfl (wn_f hF rfl rfl rfl rfl) (.inr hSS) ?_
        clear hF; intro a hF
        refine ha_s 12 hF rfl rfl rfl (wn_f hF rfl rfl rfl rfl) (.inr hSS) ?_
        clear hF; intro a hF
        refine ha_s 13 hF rfl rfl rfl (wn_f hF rfl rfl rfl rfl) (.inr hSS) ?_
        clear hF; intro a hF
        refine ha_s 14 hF rfl rfl rfl (wn_f hF rfl rfl rfl rfl) (.inr hSS) ?_
        clear hF; intro a hF
        refine ha_y 15 hF rfl rfl rfl (wn_none rfl) (.inr hSS) (yl_pick (u := _) (v := undef) hF rfl rfl (fun _ => rfl) (fun h => by cases h)) ?_
        clear hF; intro a hF
        refine ha_done (by kernel_rfl) ?_ _
        refine then_n ?_
        refine c_cond_t hF rfl ?_
        refine c_seq ?_
        refine c_region ?_
        refine seq_yl hF (wn_none rfl) rfl rfl (yl_assign hF rfl rfl) ?_
        clear hF; intro a hF
        refine wpList_nil ?_
        refine then_n ?_
        refine wp_ret ?_
        refine inb_r ?_
        refine then_r ?_
        refine then_r ?_
        refine inb_r ?_
        refine then_r ?_
        refine ret_t hF rfl rfl ?_
        exact ⟨_, rfl, congrArg Value.bool (flies_bad hx232 (fun h9 => by simp only [okP, okS, okI] at h9; omega)), (hS.sub [] (by decide) (by first | rfl | simp) (by simp))⟩
      · first | (replace hc235 := of_decide_eq_false hc235) | (replace hc235 := of_decide_eq_true (bnot_f hc235)) | (subst hc235) | (replace hc235 := bnot_f hc235; subst hc235) | (replace hc235 := bnot_f hc235) | skip
        try (have hc235x := hc235; simp only [okS, okI, okW, okP] at hc235x)
        refine ha_y 4 hF rfl rfl rfl (wn_t hF rfl rfl rfl rfl) (.inr hSS) (yl_fieldAddr hF rfl rfl (fun w => by kernel_rfl : ∀ w, (Instr.fieldAt 59 (.pointer (some ⟨g234, 0, none⟩)) 0).run Try.prog w = .ok (.pointer (some ⟨g234, 0, none⟩)) w)) ?_
        clear hF; intro a hF
        refine ha_l 5 hF rfl rfl rfl (wn_t hF rfl rfl rfl rfl) hSS (yl_load (fun _ h => h) hF rfl rfl 0 rfl ag3 rfl) ?_
        clear hF; intro a hF
        refine ha_l 6 hF rfl rfl rfl (wn_t hF rfl rfl rfl rfl) hSS (yl_loadK (rs := [_, _, _]) (fun _ h => h) hF rfl rfl 1 rfl ag24 sz24 rfl rfl) ?_
        clear hF; intro a hF
        refine ha_one 7 (by kernel_rfl) rfl (wn_t hF rfl rfl rfl rfl) (wp_call (vs := [_]) hF rfl rfl rfl rfl cf27 (secs_any st _ _ _ (by omega)) ?_)
        clear hF; rintro _ w ⟨rfl, hS1⟩ a hF
        replace hS := hS.callB hS1 rfl; clear hS1
        replace hSS := hS.sub [0, 1] (by decide) rfl (by simp)
        refine ⟨.inr hSS, ?_⟩
        refine ha_y 8 hF rfl rfl rfl (wn_t hF rfl rfl rfl rfl) (.inr hSS) (yl_bin hF rfl rfl rfl rfl (fun _ => run_geq)) ?_
        clear hF; intro a hF
        refine ha_y 9 hF rfl rfl rfl (wn_none rfl) (.inr hSS) (yl_pick (u := _) (v := undef) hF rfl rfl (fun h => by cases h) (fun _ => rfl)) ?_
        clear hF; intro a hF
        refine ha_y 10 hF rfl rfl rfl (wn_none rfl) (.inr hSS) (yl_move hF rfl rfl) ?_
        clear hF; intro a hF
        refine fr_split hF (fun hc236 hF => ?_) (fun hc236 hF => ?_)
        · first | (replace hc236 := of_decide_eq_true hc236) | (replace hc236 := of_decide_eq_false (bnot_t hc236)) | (subst hc236) | (replace hc236 := bnot_t hc236; subst hc236) | (replace hc236 := bnot_t hc236) | skip
          try (have hc236x := hc236; simp only [okS, okI, okW, okP] at hc236x)
          refine ha_s 11 hF rfl rfl rfl (wn_f hF rfl rfl rfl rfl) (.inr hSS) ?_
          clear hF; intro a hF
          refine ha_s 12 hF rfl rfl rfl (wn_f hF rfl rfl rfl rfl) (.inr hSS) ?_
          clear hF; intro a hF
          refine ha_s 13 hF rfl rfl rfl (wn_f hF rfl rfl rfl rfl) (.inr hSS) ?_
          clear hF; intro a hF
          refine ha_s 14 hF rfl rfl rfl (wn_f hF rfl rfl rfl rfl) (.inr hSS) ?_
          clear hF; intro a hF
          refine ha_y 15 hF rfl rfl rfl (wn_none rfl) (.inr hSS) (yl_pick (u := _) (v := undef) hF rfl rfl (fun _ => rfl) (fun h => by cases h)) ?_
          clear hF; intro a hF
          refine ha_done (by kernel_rfl) ?_ _
          refine then_n ?_
          refine c_cond_t hF rfl ?_
          refine c_seq ?_
          refine c_region ?_
          refine seq_yl hF (wn_none rfl) rfl rfl (yl_assign hF rfl rfl) ?_
          clear hF; intro a hF
          refine wpList_nil ?_
          refine then_n ?_
          refine wp_ret ?_
          refine inb_r ?_
          refine then_r ?_
          refine then_r ?_
          refine inb_r ?_
          refine then_r ?_
          refine ret_t hF rfl rfl ?_
          exact ⟨_, rfl, congrArg Value.bool (flies_bad hx232 (fun h9 => by simp only [okP, okS, okI] at h9; omega)), (hS.sub [] (by decide) (by first | rfl | simp) (by simp))⟩
        · first | (replace hc236 := of_decide_eq_false hc236) | (replace hc236 := of_decide_eq_true (bnot_f hc236)) | (subst hc236) | (replace hc236 := bnot_f hc236; subst hc236) | (replace hc236 := bnot_f hc236) | skip
          try (have hc236x := hc236; simp only [okS, okI, okW, okP] at hc236x)
          refine ha_y 11 hF rfl rfl rfl (wn_t hF rfl rfl rfl rfl) (.inr hSS) (yl_fieldAddr hF rfl rfl (fun w => by kernel_rfl : ∀ w, (Instr.fieldAt 59 (.pointer (some ⟨g234, 0, none⟩)) 1).run Try.prog w = .ok (.pointer (some ⟨g234, 1, none⟩)) w)) ?_
          clear hF; intro a hF
          refine ha_l 12 hF rfl rfl rfl (wn_t hF rfl rfl rfl rfl) hSS (yl_load (fun _ h => h) hF rfl rfl 0 rfl ag9 rfl) ?_
          clear hF; intro a hF
          refine ha_y 13 hF rfl rfl rfl (wn_t hF rfl rfl rfl rfl) (.inr hSS) (yl_len hF rfl rfl (fun _ => run_lenStr Try.underlying9)) ?_
          clear hF; intro a hF
          refine ha_y 14 hF rfl rfl rfl (wn_t hF rfl rfl rfl rfl) (.inr hSS) (yl_bin hF rfl rfl rfl rfl (fun _ => run_neq)) ?_
          clear hF; intro a hF
          refine ha_y 15 hF rfl rfl rfl (wn_none rfl) (.inr hSS) (yl_pick (u := _) (v := undef) hF rfl rfl (fun h => by cases h) (fun _ => rfl)) ?_
          clear hF; intro a hF
          refine ha_done (by kernel_rfl) ?_ _
          refine then_n ?_
          refine c_cond hF rfl (fun hc237 => ?_) (fun hc237 => ?_)
          · first | (replace hc237 := of_decide_eq_true hc237) | (replace hc237 := of_decide_eq_false (bnot_t hc237)) | (subst hc237) | (replace hc237 := bnot_t hc237; subst hc237) | (replace hc237 := bnot_t hc237) | skip
            try (have hc237x := hc237; simp only [okS, okI, okW, okP] at hc237x)
            refine c_seq ?_
            refine c_region ?_
            refine seq_yl hF (wn_none rfl) rfl rfl (yl_assign hF rfl rfl) ?_
            clear hF; intro a hF
            refine wpList_nil ?_
            refine then_n ?_
            refine wp_ret ?_
            refine inb_r ?_
            refine then_r ?_
            refine then_r ?_
            refine inb_r ?_
            refine then_r ?_
            refine ret_t hF rfl rfl ?_
            exact ⟨_, rfl, congrArg Value.bool (flies_bad hx232 (fun h9 => by simp only [okP, okS, okI] at h9; omega)), (hS.sub [] (by decide) (by first | rfl | simp) (by simp))⟩
          · first | (replace hc237 := of_decide_eq_false hc237) | (replace hc237 := of_decide_eq_true (bnot_f hc237)) | (subst hc237) | (replace hc237 := bnot_f hc237; subst hc237) | (replace hc237 := bnot_f hc237) | skip
            try (have hc237x := hc237; simp only [okS, okI, okW, okP] at hc237x)
            refine wp_skip ?_
            refine inb_n ?_
            refine then_n ?_
            refine c_region ?_
            refine seq_yl hF (wn_none rfl) rfl rfl (yl_move hF rfl rfl) ?_
            clear hF; intro a hF
            refine seq_yl hF (wn_none rfl) rfl rfl (yl_bin hF rfl rfl rfl rfl (fun _ => run_inc (by omega))) ?_
            clear hF; intro a hF
            refine seq_yl hF (wn_none rfl) rfl rfl (yl_assign hF rfl rfl) ?_
            clear hF; intro a hF
            refine wpList_nil ?_
            refine then_n ?_
            exact ⟨_, (by omega), k + 1, rfl, ⟨by omega, take_allC (p := fun p => okP (st.size : Int) p ∨ ¬ okI (st.size : Int)) hinv.2 hx232 (by by_cases h9 : okI (st.size : Int); exact .inl (by simp only [okP, okS, okI] at *; omega); exact .inr h9)⟩, hF.to [1, 2, 5] rfl, (hS.sub [1, 2, 3] (by decide) (by first | rfl | simp) (by simp))⟩
    · first | (replace hc231 := of_decide_eq_false hc231) | (replace hc231 := of_decide_eq_true (bnot_f hc231)) | (subst hc231) | (replace hc231 := bnot_f hc231; subst hc231) | (replace hc231 := bnot_f hc231) | skip
      try (have hc231x := hc231; simp only [okS, okI, okW, okP] at hc231x)
      refine wp_exit ?_
      refine then_x ?_
      refine then_x ?_
      refine inb_x ?_
      refine then_n ?_
      refine c_seq ?_
      refine c_region ?_
      refine seq_yl hF (wn_none rfl) rfl rfl (yl_loadK (rs := [_, _, _]) (fun _ h => h ▸ hS) hF rfl rfl 0 rfl ag24 sz24 rfl rfl) ?_
      clear hF; intro a hF
      refine seq_wp (wn_none rfl) (wp_call (vs := [_]) hF rfl rfl rfl rfl cf49 (dValid2_any st _ L (rm) _ (hS.rdRo 2 rfl) (by first | omega | (simp; done)) (by first | omega | (simp; done))) ?_)
      clear hF; rintro _ w ⟨rfl, hS1⟩ a hF
      replace hS := hS.callB hS1 rfl; clear hS1
      refine seq_yl hF (wn_none rfl) rfl rfl (yl_assign hF rfl rfl) ?_
      clear hF; intro a hF
      refine wpList_nil ?_
      refine then_n ?_
      refine wp_ret ?_
      refine ret_t hF rfl rfl ?_
      exact ⟨_, rfl, congrArg Value.bool (flies_end hinv.2 (by omega)), (hS.sub [] (by decide) (by first | rfl | simp) (by simp))⟩

end Go.Proofs.Ytlhcpeolkkadbaa

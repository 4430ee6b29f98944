/- walks, printed by wip/gen -/
import Derived.Test.YtkejcnhfbfgphaaX5
import Derived.Test.YtkejcnhfbfgphaaX6
import Derived.Test.YtkejcnhfbfgphaaX3
import Derived.Test.YtkejcnhfbfgphaaW1
import Derived.Test.YtkejcnhfbfgphaaPF
namespace Go.Proofs.Ytkejcnhfbfgphaa
open Go.RowKit
set_option linter.unusedVariables false
set_option linter.unusedSimpArgs false

set_option maxRecDepth 100000 in
theorem torn2_any (ta tb : ByteArray) (w0 : World) (ha : 4 ≤ (ta.size : Int)) (hb : 4 ≤ (tb.size : Int)) (h1 : (ta.size : Int) ≤ 1000000) (h2 : (tb.size : Int) ≤ 1000000) :
  Fn Try.prog 32 #[.string ta, .string tb] w0 (fun v w' => v = .string (subs ta 0 4 ++ subs tb 4 (tb.size : Int)) ∧ Sat w0 w' []) := by
 refine c_enter (N := 10) (l := [_, _]) Try.func32 rfl rfl (fun a w hF hS => ?_)
 refine c_seq ?_
 refine c_region ?_
 refine asN hF rfl rfl rfl rfl rfl ?_; clear hF; intro a hF
 refine wpList_nil ?_
 refine then_n ?_
 refine c_seq ?_
 refine ha_startS hS [] 6 (by kernel_rfl) ?_; clear hS; intro w hS
 have hSS := hS.sub [] (by decide) rfl (by simp)
 refine ha_y 0 hF rfl rfl rfl (wn_none rfl) (.inr hSS) (yl_move hF rfl rfl) ?_; clear hF; intro a hF
 have hz748 := subs_size (s := ta) (i := 0) (j := (4 : Int)) (by omega) (by omega) (by omega)
 refine ha_y 1 hF rfl rfl rfl (wn_none rfl) (.inr hSS) (yl_subsH (s := ta) (j := (4 : Int)) hF rfl rfl rfl Try.underlying9 (by omega) (by omega)) ?_; clear hF; intro a hF
 refine ha_y 2 hF rfl rfl rfl (wn_none rfl) (.inr hSS) (yl_move hF rfl rfl) ?_; clear hF; intro a hF
 have hz749 := subs_size (s := tb) (i := (4 : Int)) (j := ((tb).size : Int)) (by omega) (by omega) (by omega)
 refine ha_y 3 hF rfl rfl rfl (wn_none rfl) (.inr hSS) (yl_subsL (s := tb) (i := (4 : Int)) hF rfl rfl rfl Try.underlying9 (by omega) (by omega)) ?_; clear hF; intro a hF
 have hz750 := cat_size (subs ta 0 (4 : Int)) (subs tb (4 : Int) ((tb).size : Int))
 refine ha_y 4 hF rfl rfl rfl (wn_none rfl) (.inr hSS) (yl_bin hF rfl rfl rfl rfl (fun _ => run_catS (x := (subs ta 0 (4 : Int))) (y := (subs tb (4 : Int) ((tb).size : Int))) (by omega))) ?_; clear hF; intro a hF
 refine ha_y 5 hF rfl rfl rfl (wn_none rfl) (.inr hSS) (yl_assign hF rfl rfl) ?_; clear hF; intro a hF
 refine ha_done (by kernel_rfl) ?_ _
 refine then_n ?_
 refine wp_ret ?_
 refine ret_t hF rfl rfl ?_
 exact ⟨_, rfl, rfl, (hS.sub [] (by decide) (by first | rfl | simp) (by simp))⟩

set_option maxHeartbeats 4000000 in
set_option maxRecDepth 100000 in
theorem carry_any (st : ByteArray) (lv : Value) (L : List E67) (rm : Int) (i0 k s c : Int) (x : ByteArray) (fua : Bool) (bg en er dn : Int) (hf : Bool) (dl : Int) (w0 : World) (hv : Rd w0 2 lv (L).length (cells enc67 (L))) (hz : (st.size : Int) ≤ 9223372036854775807) (hL : L.length ≤ 1000000) (hx : (x.size : Int) ≤ 9223372036854775807) :
  Fn Try.prog 22 #[.agg #[.string st, lv, .int .i64 rm], .agg #[.int .i64 i0, .int .i64 k, .int .i64 s, .int .i64 c, .string x, .bool fua, .int .i64 bg, .int .i64 en, .int .i64 er, .int .i64 dn, .bool hf, .int .i64 dl]] w0 (fun v w' => ∃ (st1 : ByteArray) (lv1 : Value) (L1 : List E67) (rm1 : Int) (dt : ByteArray) (e1 : Int) (ow : Bool), v = .tuple #[.agg #[.string st1, lv1, .int .i64 rm1], .string dt, .int .i64 e1] ∧ runF st L rm k s c x fua er dn hf = (st1, L1, rm1, dt, e1) ∧ (ow = true ∨ (lv1 = lv ∧ L1 = L) ∨ (∀ w, Rd w 2 lv1 L1.length (cells enc67 L1))) ∧ Sat w0 w' (ownC ow 67 2 lv1 L1.length (cells enc67 L1))) := by
 have hwr : -1000 ≤ c → c ≤ 1000 → IntKind.i64.wrap (c * 8) = c * 8 := fun h1 h2 => wrap_in ⟨by omega, by omega⟩
 obtain ⟨Alv, clv, rfl⟩ := Rd.form hv
 refine c_enter (N := 183) (l := [_, _]) Try.func22 rfl rfl (fun a w hF hS => ?_)
 replace hS := hS.addRo hv
 refine c_seq ?_
 refine c_region ?_
 refine seq_wp (wn_none rfl) (wp_box (cs := #[_, _, _]) hF hS rfl rfl rfl rfl rfl ?_)
 clear hF hS; intro a w g751 hF hS
 refine seq_wp (wn_none rfl) (wp_box (cs := #[_, _, _, _, _, _, _, _, _, _, _, _]) hF hS rfl rfl rfl rfl rfl ?_)
 clear hF hS; intro a w g752 hF hS
 refine seq_wp (wn_none rfl) (wp_alloc (cs := #[_, _, _]) hF hS rfl rfl rfl zr43 rfl ?_)
 clear hF hS; intro a w g753 hF hS
 refine asN hF rfl rfl rfl rfl rfl ?_; clear hF; intro a hF
 refine asN hF rfl rfl rfl rfl rfl ?_; clear hF; intro a hF
 refine wpList_nil ?_
 refine then_n ?_
 refine c_seq ?_
 refine c_region ?_
 refine asN hF rfl rfl rfl rfl rfl ?_; clear hF; intro a hF
 refine wpList_nil ?_
 refine then_n ?_
 refine c_seq ?_
 refine c_seq ?_
 refine c_region ?_
 refine seq_yl hF (wn_none rfl) rfl rfl (yl_fieldAddr hF rfl rfl (fun w => by kernel_rfl : ∀ w, (Instr.fieldAt 45 (.pointer (some ⟨g752, 0, none⟩)) 1).run Try.prog w = .ok (.pointer (some ⟨g752, 1, none⟩)) w)) ?_; clear hF; intro a hF
 refine seq_yl hF (wn_none rfl) rfl rfl (yl_load (fun _ h => h ▸ hS) hF rfl rfl 1 rfl ag3 rfl) ?_; clear hF; intro a hF
 refine seq_yl hF (wn_none rfl) rfl rfl (yl_bin hF rfl rfl rfl rfl (fun _ => run_eql)) ?_; clear hF; intro a hF
 refine wpList_nil ?_
 refine then_n ?_
 refine c_cond hF rfl (fun hc754 => ?_) (fun hc754 => ?_)
 ·first | (replace hc754 := of_decide_eq_true hc754) | (replace hc754 := of_decide_eq_false (bnot_t hc754)) | (replace hc754 := bnot_t hc754) | skip
  try (have hc754x := hc754; simp only [okS, okI, okW, okP] at hc754x)
  refine c_region ?_
  refine seq_yl hF (wn_none rfl) rfl rfl (yl_fieldAddr hF rfl rfl (fun w => by kernel_rfl : ∀ w, (Instr.fieldAt 45 (.pointer (some ⟨g752, 0, none⟩)) 3).run Try.prog w = .ok (.pointer (some ⟨g752, 3, none⟩)) w)) ?_; clear hF; intro a hF
  refine seq_yl hF (wn_none rfl) rfl rfl (yl_load (fun _ h => h ▸ hS) hF rfl rfl 1 rfl ag3 rfl) ?_; clear hF; intro a hF
  refine seq_yl hF (wn_none rfl) rfl rfl (yl_bin hF rfl rfl rfl rfl (fun _ => run_mulW)) ?_; clear hF; intro a hF
  refine asN hF rfl rfl rfl rfl rfl ?_; clear hF; intro a hF
  refine wpList_nil ?_
  refine then_n ?_
  refine c_seq ?_
  refine c_seq ?_
  refine c_cut (fun a w => ∃ (bad : Bool) , (bad = !decide (fitsP st L rm k s c x)) ∧ Fr 183 a [(2, .pointer (some ⟨g751, 0, none⟩)), (3, .pointer (some ⟨g752, 0, none⟩)), (4, .pointer (some ⟨g753, 0, none⟩)), (5, .string (ByteArray.mk #[])), (6, .int .i64 (0 : Int)), (56, .bool bad)] ∧ Sat w0 w (.box g753 43 #[.string (⟨#[]⟩ : ByteArray), .slice none 0 0, .int .i64 (0 : Int)] :: .box g752 45 #[.int .i64 (i0), .int .i64 (k), .int .i64 (s), .int .i64 (c), .string x, .bool fua, .int .i64 (bg), .int .i64 (en), .int .i64 (er), .int .i64 (dn), .bool hf, .int .i64 (dl)] :: .box g751 43 #[.string st, .slice Alv (L).length clv, .int .i64 (rm)] :: .ro 2 (.slice Alv (L).length clv) (L).length (cells enc67 (L)) :: [])) ?_ ?_
  ·skip
   refine ha_startS hS [2, 1] 36 (by kernel_rfl) ?_; clear hS; intro w hS
   have hSS := hS.sub [2, 1] (by decide) rfl (by simp)
   refine ha_l 0 hF rfl rfl rfl (wn_none rfl) hSS (yl_loadK (rs := [_, _, _]) (fun _ h => h) hF rfl rfl 0 rfl ag43 sz43 rfl rfl) ?_; clear hF; intro a hF
   refine ha_one 1 (by kernel_rfl) rfl (wn_none rfl) (wp_call (vs := [_]) hF rfl rfl rfl rfl cf44 (dValid2_any st _ L (rm) _ (hS.rdRo 3 rfl) (by first | omega | (simp; done)) (by first | omega | (simp; done))) ?_)
   clear hF; rintro _ w ⟨rfl, hS1⟩ a hF
   replace hS := hS.callB hS1 rfl; clear hS1
   replace hSS := hS.sub [2, 1] (by decide) rfl (by simp)
   refine ⟨.inr hSS, ?_⟩
   refine ha_y 2 hF rfl rfl rfl (wn_none rfl) (.inr hSS) (yl_un hF rfl rfl (fun _ => run_not)) ?_; clear hF; intro a hF
   refine ha_y 3 hF rfl rfl rfl (wn_none rfl) (.inr hSS) (yl_move hF rfl rfl) ?_; clear hF; intro a hF
   refine fr_split hF (fun hc756 hF => ?_) (fun hc756 hF => ?_)
   ·first | (replace hc756 := of_decide_eq_true hc756) | (replace hc756 := of_decide_eq_false (bnot_t hc756)) | (replace hc756 := bnot_t hc756) | skip
    try (have hc756x := hc756; simp only [okS, okI, okW, okP] at hc756x)
    refine ha_s 4 hF rfl rfl rfl (wn_f hF rfl rfl rfl rfl) (.inr hSS) ?_; clear hF; intro a hF
    refine ha_s 5 hF rfl rfl rfl (wn_f hF rfl rfl rfl rfl) (.inr hSS) ?_; clear hF; intro a hF
    refine ha_s 6 hF rfl rfl rfl (wn_f hF rfl rfl rfl rfl) (.inr hSS) ?_; clear hF; intro a hF
    refine ha_s 7 hF rfl rfl rfl (wn_f hF rfl rfl rfl rfl) (.inr hSS) ?_; clear hF; intro a hF
    refine ha_y 8 hF rfl rfl rfl (wn_none rfl) (.inr hSS) (pkT hF rfl rfl rfl) ?_; clear hF; intro a hF
    refine ha_y 9 hF rfl rfl rfl (wn_none rfl) (.inr hSS) (yl_move hF rfl rfl) ?_; clear hF; intro a hF
    refine ha_s 10 hF rfl rfl rfl (wn_f hF rfl rfl rfl rfl) (.inr hSS) ?_; clear hF; intro a hF
    refine ha_s 11 hF rfl rfl rfl (wn_f hF rfl rfl rfl rfl) (.inr hSS) ?_; clear hF; intro a hF
    refine ha_s 12 hF rfl rfl rfl (wn_f hF rfl rfl rfl rfl) (.inr hSS) ?_; clear hF; intro a hF
    refine ha_s 13 hF rfl rfl rfl (wn_f hF rfl rfl rfl rfl) (.inr hSS) ?_; clear hF; intro a hF
    refine ha_s 14 hF rfl rfl rfl (wn_u hF rfl rfl rfl rfl) (.inr hSS) ?_; clear hF; intro a hF
    refine ha_s 15 hF rfl rfl rfl (wn_u hF rfl rfl rfl rfl) (.inr hSS) ?_; clear hF; intro a hF
    refine ha_s 16 hF rfl rfl rfl (wn_u hF rfl rfl rfl rfl) (.inr hSS) ?_; clear hF; intro a hF
    refine ha_s 17 hF rfl rfl rfl (wn_u hF rfl rfl rfl rfl) (.inr hSS) ?_; clear hF; intro a hF
    refine ha_s 18 hF rfl rfl rfl (wn_u hF rfl rfl rfl rfl) (.inr hSS) ?_; clear hF; intro a hF
    refine ha_s 19 hF rfl rfl rfl (wn_u hF rfl rfl rfl rfl) (.inr hSS) ?_; clear hF; intro a hF
    refine ha_s 20 hF rfl rfl rfl (wn_u hF rfl rfl rfl rfl) (.inr hSS) ?_; clear hF; intro a hF
    refine ha_s 21 hF rfl rfl rfl (wn_u hF rfl rfl rfl rfl) (.inr hSS) ?_; clear hF; intro a hF
    refine ha_s 22 hF rfl rfl rfl (wn_u hF rfl rfl rfl rfl) (.inr hSS) ?_; clear hF; intro a hF
    refine ha_s 23 hF rfl rfl rfl (wn_u hF rfl rfl rfl rfl) (.inr hSS) ?_; clear hF; intro a hF
    refine ha_s 24 hF rfl rfl rfl (wn_u hF rfl rfl rfl rfl) (.inr hSS) ?_; clear hF; intro a hF
    refine ha_s 25 hF rfl rfl rfl (wn_u hF rfl rfl rfl rfl) (.inr hSS) ?_; clear hF; intro a hF
    refine ha_s 26 hF rfl rfl rfl (wn_u hF rfl rfl rfl rfl) (.inr hSS) ?_; clear hF; intro a hF
    refine ha_s 27 hF rfl rfl rfl (wn_f hF rfl rfl rfl rfl) (.inr hSS) ?_; clear hF; intro a hF
    refine ha_y 28 hF rfl rfl rfl (wn_none rfl) (.inr hSS) (pkT hF rfl rfl rfl) ?_; clear hF; intro a hF
    refine ha_y 29 hF rfl rfl rfl (wn_none rfl) (.inr hSS) (yl_move hF rfl rfl) ?_; clear hF; intro a hF
    refine ha_s 30 hF rfl rfl rfl (wn_f hF rfl rfl rfl rfl) (.inr hSS) ?_; clear hF; intro a hF
    refine ha_s 31 hF rfl rfl rfl (wn_f hF rfl rfl rfl rfl) (.inr hSS) ?_; clear hF; intro a hF
    refine ha_s 32 hF rfl rfl rfl (wn_f hF rfl rfl rfl rfl) (.inr hSS) ?_; clear hF; intro a hF
    refine ha_s 33 hF rfl rfl rfl (wn_f hF rfl rfl rfl rfl) (.inr hSS) ?_; clear hF; intro a hF
    refine ha_s 34 hF rfl rfl rfl (wn_f hF rfl rfl rfl rfl) (.inr hSS) ?_; clear hF; intro a hF
    refine ha_y 35 hF rfl rfl rfl (wn_none rfl) (.inr hSS) (pkT hF rfl rfl rfl) ?_; clear hF; intro a hF
    refine ha_done (by kernel_rfl) ?_ _
    refine cut_n ?_
    exact ⟨_, ndec_t (fun h9 => by obtain ⟨h7, h8⟩ := h9; simp only [okS, okI] at h8; first | exact absurd h7 (by assumption) | omega), hF.to [2, 3, 4, 5, 6, 56] rfl, (hS.sub [0, 1, 2, 3] (by decide) (by first | rfl | simp) (by simp))⟩
   ·first | (replace hc756 := of_decide_eq_false hc756) | (replace hc756 := of_decide_eq_true (bnot_f hc756)) | (replace hc756 := bnot_f hc756) | skip
    try (have hc756x := hc756; simp only [okS, okI, okW, okP] at hc756x)
    refine ha_y 4 hF rfl rfl rfl (wn_t hF rfl rfl rfl rfl) (.inr hSS) (yl_fieldAddr hF rfl rfl (fun w => by kernel_rfl : ∀ w, (Instr.fieldAt 45 (.pointer (some ⟨g752, 0, none⟩)) 1).run Try.prog w = .ok (.pointer (some ⟨g752, 1, none⟩)) w)) ?_; clear hF; intro a hF
    refine ha_l 5 hF rfl rfl rfl (wn_t hF rfl rfl rfl rfl) hSS (yl_load (fun _ h => h) hF rfl rfl 1 rfl ag3 rfl) ?_; clear hF; intro a hF
    refine ha_one 6 (by kernel_rfl) rfl (wn_t hF rfl rfl rfl rfl) (wp_call (vs := [_]) hF rfl rfl rfl rfl cf45 (kind2_any (k) _) ?_)
    clear hF; rintro _ w ⟨rfl, hS1⟩ a hF
    replace hS := hS.callB hS1 rfl; clear hS1
    replace hSS := hS.sub [2, 1] (by decide) rfl (by simp)
    refine ⟨.inr hSS, ?_⟩
    refine ha_y 7 hF rfl rfl rfl (wn_t hF rfl rfl rfl rfl) (.inr hSS) (yl_un hF rfl rfl (fun _ => run_not)) ?_; clear hF; intro a hF
    refine ha_y 8 hF rfl rfl rfl (wn_none rfl) (.inr hSS) (pkF hF rfl rfl rfl) ?_; clear hF; intro a hF
    refine ha_y 9 hF rfl rfl rfl (wn_none rfl) (.inr hSS) (yl_move hF rfl rfl) ?_; clear hF; intro a hF
    refine fr_split hF (fun hc757 hF => ?_) (fun hc757 hF => ?_)
    ·first | (replace hc757 := of_decide_eq_true hc757) | (replace hc757 := of_decide_eq_false (bnot_t hc757)) | (replace hc757 := bnot_t hc757) | skip
     try (have hc757x := hc757; simp only [okS, okI, okW, okP] at hc757x)
     refine ha_s 10 hF rfl rfl rfl (wn_f hF rfl rfl rfl rfl) (.inr hSS) ?_; clear hF; intro a hF
     refine ha_s 11 hF rfl rfl rfl (wn_f hF rfl rfl rfl rfl) (.inr hSS) ?_; clear hF; intro a hF
     refine ha_s 12 hF rfl rfl rfl (wn_f hF rfl rfl rfl rfl) (.inr hSS) ?_; clear hF; intro a hF
     refine ha_s 13 hF rfl rfl rfl (wn_f hF rfl rfl rfl rfl) (.inr hSS) ?_; clear hF; intro a hF
     refine ha_s 14 hF rfl rfl rfl (wn_u hF rfl rfl rfl rfl) (.inr hSS) ?_; clear hF; intro a hF
     refine ha_s 15 hF rfl rfl rfl (wn_u hF rfl rfl rfl rfl) (.inr hSS) ?_; clear hF; intro a hF
     refine ha_s 16 hF rfl rfl rfl (wn_u hF rfl rfl rfl rfl) (.inr hSS) ?_; clear hF; intro a hF
     refine ha_s 17 hF rfl rfl rfl (wn_u hF rfl rfl rfl rfl) (.inr hSS) ?_; clear hF; intro a hF
     refine ha_s 18 hF rfl rfl rfl (wn_u hF rfl rfl rfl rfl) (.inr hSS) ?_; clear hF; intro a hF
     refine ha_s 19 hF rfl rfl rfl (wn_u hF rfl rfl rfl rfl) (.inr hSS) ?_; clear hF; intro a hF
     refine ha_s 20 hF rfl rfl rfl (wn_u hF rfl rfl rfl rfl) (.inr hSS) ?_; clear hF; intro a hF
     refine ha_s 21 hF rfl rfl rfl (wn_u hF rfl rfl rfl rfl) (.inr hSS) ?_; clear hF; intro a hF
     refine ha_s 22 hF rfl rfl rfl (wn_u hF rfl rfl rfl rfl) (.inr hSS) ?_; clear hF; intro a hF
     refine ha_s 23 hF rfl rfl rfl (wn_u hF rfl rfl rfl rfl) (.inr hSS) ?_; clear hF; intro a hF
     refine ha_s 24 hF rfl rfl rfl (wn_u hF rfl rfl rfl rfl) (.inr hSS) ?_; clear hF; intro a hF
     refine ha_s 25 hF rfl rfl rfl (wn_u hF rfl rfl rfl rfl) (.inr hSS) ?_; clear hF; intro a hF
     refine ha_s 26 hF rfl rfl rfl (wn_u hF rfl rfl rfl rfl) (.inr hSS) ?_; clear hF; intro a hF
     refine ha_s 27 hF rfl rfl rfl (wn_f hF rfl rfl rfl rfl) (.inr hSS) ?_; clear hF; intro a hF
     refine ha_y 28 hF rfl rfl rfl (wn_none rfl) (.inr hSS) (pkT hF rfl rfl rfl) ?_; clear hF; intro a hF
     refine ha_y 29 hF rfl rfl rfl (wn_none rfl) (.inr hSS) (yl_move hF rfl rfl) ?_; clear hF; intro a hF
     refine ha_s 30 hF rfl rfl rfl (wn_f hF rfl rfl rfl rfl) (.inr hSS) ?_; clear hF; intro a hF
     refine ha_s 31 hF rfl rfl rfl (wn_f hF rfl rfl rfl rfl) (.inr hSS) ?_; clear hF; intro a hF
     refine ha_s 32 hF rfl rfl rfl (wn_f hF rfl rfl rfl rfl) (.inr hSS) ?_; clear hF; intro a hF
     refine ha_s 33 hF rfl rfl rfl (wn_f hF rfl rfl rfl rfl) (.inr hSS) ?_; clear hF; intro a hF
     refine ha_s 34 hF rfl rfl rfl (wn_f hF rfl rfl rfl rfl) (.inr hSS) ?_; clear hF; intro a hF
     refine ha_y 35 hF rfl rfl rfl (wn_none rfl) (.inr hSS) (pkT hF rfl rfl rfl) ?_; clear hF; intro a hF
     refine ha_done (by kernel_rfl) ?_ _
     refine cut_n ?_
     exact ⟨_, ndec_t (fun h9 => by obtain ⟨h7, h8⟩ := h9; simp only [okS, okI] at h8; first | exact absurd h7 (by assumption) | omega), hF.to [2, 3, 4, 5, 6, 56] rfl, (hS.sub [0, 1, 2, 3] (by decide) (by first | rfl | simp) (by simp))⟩
    ·first | (replace hc757 := of_decide_eq_false hc757) | (replace hc757 := of_decide_eq_true (bnot_f hc757)) | (replace hc757 := bnot_f hc757) | skip
     try (have hc757x := hc757; simp only [okS, okI, okW, okP] at hc757x)
     refine ha_y 10 hF rfl rfl rfl (wn_t hF rfl rfl rfl rfl) (.inr hSS) (yl_fieldAddr hF rfl rfl (fun w => by kernel_rfl : ∀ w, (Instr.fieldAt 45 (.pointer (some ⟨g752, 0, none⟩)) 1).run Try.prog w = .ok (.pointer (some ⟨g752, 1, none⟩)) w)) ?_; clear hF; intro a hF
     refine ha_l 11 hF rfl rfl rfl (wn_t hF rfl rfl rfl rfl) hSS (yl_load (fun _ h => h) hF rfl rfl 1 rfl ag3 rfl) ?_; clear hF; intro a hF
     refine ha_y 12 hF rfl rfl rfl (wn_t hF rfl rfl rfl rfl) (.inr hSS) (yl_bin hF rfl rfl rfl rfl (fun _ => run_neq)) ?_; clear hF; intro a hF
     refine ha_y 13 hF rfl rfl rfl (wn_t hF rfl rfl rfl rfl) (.inr hSS) (yl_move hF rfl rfl) ?_; clear hF; intro a hF
     refine fr_split hF (fun hc758 hF => ?_) (fun hc758 hF => ?_)
     ·first | (replace hc758 := of_decide_eq_true hc758) | (replace hc758 := of_decide_eq_false (bnot_t hc758)) | (replace hc758 := bnot_t hc758) | skip
      try (have hc758x := hc758; simp only [okS, okI, okW, okP] at hc758x)
      refine ha_y 14 hF rfl rfl rfl (wn_t hF rfl rfl rfl rfl) (.inr hSS) (yl_fieldAddr hF rfl rfl (fun w => by kernel_rfl : ∀ w, (Instr.fieldAt 45 (.pointer (some ⟨g752, 0, none⟩)) 3).run Try.prog w = .ok (.pointer (some ⟨g752, 3, none⟩)) w)) ?_; clear hF; intro a hF
      refine ha_l 15 hF rfl rfl rfl (wn_t hF rfl rfl rfl rfl) hSS (yl_load (fun _ h => h) hF rfl rfl 1 rfl ag3 rfl) ?_; clear hF; intro a hF
      refine ha_y 16 hF rfl rfl rfl (wn_t hF rfl rfl rfl rfl) (.inr hSS) (yl_bin hF rfl rfl rfl rfl (fun _ => run_lss)) ?_; clear hF; intro a hF
      refine ha_y 17 hF rfl rfl rfl (wn_t hF rfl rfl rfl rfl) (.inr hSS) (yl_move hF rfl rfl) ?_; clear hF; intro a hF
      refine fr_split hF (fun hc759 hF => ?_) (fun hc759 hF => ?_)
      ·first | (replace hc759 := of_decide_eq_true hc759) | (replace hc759 := of_decide_eq_false (bnot_t hc759)) | (replace hc759 := bnot_t hc759) | skip
       try (have hc759x := hc759; simp only [okS, okI, okW, okP] at hc759x)
       refine ha_s 18 hF rfl rfl rfl (wn_f hF rfl rfl rfl rfl) (.inr hSS) ?_; clear hF; intro a hF
       refine ha_s 19 hF rfl rfl rfl (wn_f hF rfl rfl rfl rfl) (.inr hSS) ?_; clear hF; intro a hF
       refine ha_s 20 hF rfl rfl rfl (wn_f hF rfl rfl rfl rfl) (.inr hSS) ?_; clear hF; intro a hF
       refine ha_s 21 hF rfl rfl rfl (wn_f hF rfl rfl rfl rfl) (.inr hSS) ?_; clear hF; intro a hF
       refine ha_s 22 hF rfl rfl rfl (wn_f hF rfl rfl rfl rfl) (.inr hSS) ?_; clear hF; intro a hF
       refine ha_s 23 hF rfl rfl rfl (wn_f hF rfl rfl rfl rfl) (.inr hSS) ?_; clear hF; intro a hF
       refine ha_s 24 hF rfl rfl rfl (wn_f hF rfl rfl rfl rfl) (.inr hSS) ?_; clear hF; intro a hF
       refine ha_s 25 hF rfl rfl rfl (wn_f hF rfl rfl rfl rfl) (.inr hSS) ?_; clear hF; intro a hF
       refine ha_y 26 hF rfl rfl rfl (wn_t hF rfl rfl rfl rfl) (.inr hSS) (pkT hF rfl rfl rfl) ?_; clear hF; intro a hF
       refine ha_y 27 hF rfl rfl rfl (wn_t hF rfl rfl rfl rfl) (.inr hSS) (pkT hF rfl rfl rfl) ?_; clear hF; intro a hF
       refine ha_y 28 hF rfl rfl rfl (wn_none rfl) (.inr hSS) (pkF hF rfl rfl rfl) ?_; clear hF; intro a hF
       refine ha_y 29 hF rfl rfl rfl (wn_none rfl) (.inr hSS) (yl_move hF rfl rfl) ?_; clear hF; intro a hF
       refine ha_s 30 hF rfl rfl rfl (wn_f hF rfl rfl rfl rfl) (.inr hSS) ?_; clear hF; intro a hF
       refine ha_s 31 hF rfl rfl rfl (wn_f hF rfl rfl rfl rfl) (.inr hSS) ?_; clear hF; intro a hF
       refine ha_s 32 hF rfl rfl rfl (wn_f hF rfl rfl rfl rfl) (.inr hSS) ?_; clear hF; intro a hF
       refine ha_s 33 hF rfl rfl rfl (wn_f hF rfl rfl rfl rfl) (.inr hSS) ?_; clear hF; intro a hF
       refine ha_s 34 hF rfl rfl rfl (wn_f hF rfl rfl rfl rfl) (.inr hSS) ?_; clear hF; intro a hF
       refine ha_y 35 hF rfl rfl rfl (wn_none rfl) (.inr hSS) (pkT hF rfl rfl rfl) ?_; clear hF; intro a hF
       refine ha_done (by kernel_rfl) ?_ _
       refine cut_n ?_
       exact ⟨_, ndec_t (fun h9 => by obtain ⟨h7, h8⟩ := h9; simp only [okS, okI] at h8; first | exact absurd h7 (by assumption) | omega), hF.to [2, 3, 4, 5, 6, 56] rfl, (hS.sub [0, 1, 2, 3] (by decide) (by first | rfl | simp) (by simp))⟩
      ·first | (replace hc759 := of_decide_eq_false hc759) | (replace hc759 := of_decide_eq_true (bnot_f hc759)) | (replace hc759 := bnot_f hc759) | skip
       try (have hc759x := hc759; simp only [okS, okI, okW, okP] at hc759x)
       refine ha_y 18 hF rfl rfl rfl (wn_t hF rfl rfl rfl rfl) (.inr hSS) (yl_fieldAddr hF rfl rfl (fun w => by kernel_rfl : ∀ w, (Instr.fieldAt 45 (.pointer (some ⟨g752, 0, none⟩)) 2).run Try.prog w = .ok (.pointer (some ⟨g752, 2, none⟩)) w)) ?_; clear hF; intro a hF
       refine ha_y 20 hF rfl rfl rfl (wn_t hF rfl rfl rfl rfl) (.inr hSS) (yl_fieldAddr hF rfl rfl (fun w => by kernel_rfl : ∀ w, (Instr.fieldAt 45 (.pointer (some ⟨g752, 0, none⟩)) 3).run Try.prog w = .ok (.pointer (some ⟨g752, 3, none⟩)) w)) ?_; clear hF; intro a hF
       refine ha_l 19 hF rfl rfl rfl (wn_t hF rfl rfl rfl rfl) hSS (yl_load (fun _ h => h) hF rfl rfl 1 rfl ag3 rfl) ?_; clear hF; intro a hF
       refine ha_l 21 hF rfl rfl rfl (wn_t hF rfl rfl rfl rfl) hSS (yl_load (fun _ h => h) hF rfl rfl 1 rfl ag3 rfl) ?_; clear hF; intro a hF
       refine ha_l 22 hF rfl rfl rfl (wn_t hF rfl rfl rfl rfl) hSS (yl_loadK (rs := [_, _, _]) (fun _ h => h) hF rfl rfl 0 rfl ag43 sz43 rfl rfl) ?_; clear hF; intro a hF
       refine ha_one 23 (by kernel_rfl) rfl (wn_t hF rfl rfl rfl rfl) (wp_call (vs := [_]) hF rfl rfl rfl rfl cf30 (secs_any st _ _ _ (by omega)) ?_)
       clear hF; rintro _ w ⟨rfl, hS1⟩ a hF
       replace hS := hS.callB hS1 rfl; clear hS1
       replace hSS := hS.sub [2, 1] (by decide) rfl (by simp)
       refine ⟨.inr hSS, ?_⟩
       refine ha_one 24 (by kernel_rfl) rfl (wn_t hF rfl rfl rfl rfl) (wp_call (vs := [_, _, _]) hF rfl rfl rfl rfl cf46 (in_any (s) (c) ((((st).size : Int) / 8)) _ (by omega)) ?_)
       clear hF; rintro _ w ⟨rfl, hS1⟩ a hF
       replace hS := hS.callB hS1 rfl; clear hS1
       replace hSS := hS.sub [2, 1] (by decide) rfl (by simp)
       refine ⟨.inr hSS, ?_⟩
       refine ha_y 25 hF rfl rfl rfl (wn_t hF rfl rfl rfl rfl) (.inr hSS) (yl_un hF rfl rfl (fun _ => run_not)) ?_; clear hF; intro a hF
       refine ha_y 26 hF rfl rfl rfl (wn_t hF rfl rfl rfl rfl) (.inr hSS) (pkF hF rfl rfl rfl) ?_; clear hF; intro a hF
       refine ha_y 27 hF rfl rfl rfl (wn_t hF rfl rfl rfl rfl) (.inr hSS) (pkT hF rfl rfl rfl) ?_; clear hF; intro a hF
       refine ha_y 28 hF rfl rfl rfl (wn_none rfl) (.inr hSS) (pkF hF rfl rfl rfl) ?_; clear hF; intro a hF
       refine ha_y 29 hF rfl rfl rfl (wn_none rfl) (.inr hSS) (yl_move hF rfl rfl) ?_; clear hF; intro a hF
       refine fr_split hF (fun hc760 hF => ?_) (fun hc760 hF => ?_)
       ·first | (replace hc760 := of_decide_eq_true hc760) | (replace hc760 := of_decide_eq_false (bnot_t hc760)) | (replace hc760 := bnot_t hc760) | skip
        try (have hc760x := hc760; simp only [okS, okI, okW, okP] at hc760x)
        refine ha_s 30 hF rfl rfl rfl (wn_f hF rfl rfl rfl rfl) (.inr hSS) ?_; clear hF; intro a hF
        refine ha_s 31 hF rfl rfl rfl (wn_f hF rfl rfl rfl rfl) (.inr hSS) ?_; clear hF; intro a hF
        refine ha_s 32 hF rfl rfl rfl (wn_f hF rfl rfl rfl rfl) (.inr hSS) ?_; clear hF; intro a hF
        refine ha_s 33 hF rfl rfl rfl (wn_f hF rfl rfl rfl rfl) (.inr hSS) ?_; clear hF; intro a hF
        refine ha_s 34 hF rfl rfl rfl (wn_f hF rfl rfl rfl rfl) (.inr hSS) ?_; clear hF; intro a hF
        refine ha_y 35 hF rfl rfl rfl (wn_none rfl) (.inr hSS) (pkT hF rfl rfl rfl) ?_; clear hF; intro a hF
        refine ha_done (by kernel_rfl) ?_ _
        refine cut_n ?_
        exact ⟨_, ndec_t (fun h9 => by obtain ⟨h7, h8⟩ := h9; simp only [okS, okI] at h8; first | exact absurd h7 (by assumption) | omega), hF.to [2, 3, 4, 5, 6, 56] rfl, (hS.sub [0, 1, 2, 3] (by decide) (by first | rfl | simp) (by simp))⟩
       ·first | (replace hc760 := of_decide_eq_false hc760) | (replace hc760 := of_decide_eq_true (bnot_f hc760)) | (replace hc760 := bnot_f hc760) | skip
        try (have hc760x := hc760; simp only [okS, okI, okW, okP] at hc760x)
        refine ha_y 30 hF rfl rfl rfl (wn_t hF rfl rfl rfl rfl) (.inr hSS) (yl_fieldAddr hF rfl rfl (fun w => by kernel_rfl : ∀ w, (Instr.fieldAt 45 (.pointer (some ⟨g752, 0, none⟩)) 4).run Try.prog w = .ok (.pointer (some ⟨g752, 4, none⟩)) w)) ?_; clear hF; intro a hF
        refine ha_y 33 hF rfl rfl rfl (wn_t hF rfl rfl rfl rfl) (.inr hSS) (yl_move hF rfl rfl) ?_; clear hF; intro a hF
        refine ha_l 31 hF rfl rfl rfl (wn_t hF rfl rfl rfl rfl) hSS (yl_load (fun _ h => h) hF rfl rfl 1 rfl ag9 rfl) ?_; clear hF; intro a hF
        refine ha_y 32 hF rfl rfl rfl (wn_t hF rfl rfl rfl rfl) (.inr hSS) (yl_len hF rfl rfl (fun _ => run_lenStr Try.underlying9)) ?_; clear hF; intro a hF
        refine ha_y 34 hF rfl rfl rfl (wn_t hF rfl rfl rfl rfl) (.inr hSS) (yl_bin hF rfl rfl rfl rfl (fun _ => run_neq)) ?_; clear hF; intro a hF
        refine ha_y 35 hF rfl rfl rfl (wn_none rfl) (.inr hSS) (pkF hF rfl rfl rfl) ?_; clear hF; intro a hF
        refine ha_done (by kernel_rfl) ?_ _
        refine cut_n ?_
        exact ⟨_, (dec_d (q := ¬ fitsP st L rm k s c x) (by first | (have hd9i := okD_I (‹okD st L rm› : okD st L rm); have hw9 := hwr (by omega) (by omega); constructor <;> intro h9 <;> first | (intro h8; obtain ⟨h7, h8⟩ := h8; simp only [okS, okI] at h8; omega) | (intro h8; exact h9 ⟨by assumption, by simp only [okS, okI]; omega⟩) | (refine fun h8 => h9 ⟨by assumption, ?_⟩; simp only [okS, okI]; omega)) | (have hd9i := okD_I (‹okD st L rm› : okD st L rm); constructor <;> intro h9 <;> first | (intro h8; obtain ⟨h7, h8⟩ := h8; simp only [okS, okI] at h8; omega) | (intro h8; exact h9 ⟨by assumption, by simp only [okS, okI]; omega⟩) | (refine fun h8 => h9 ⟨by assumption, ?_⟩; simp only [okS, okI]; omega)) | (constructor <;> intro h9 <;> first | (intro h8; obtain ⟨h7, h8⟩ := h8; simp only [okS, okI] at h8; omega) | (intro h8; exact h9 ⟨by assumption, by simp only [okS, okI]; omega⟩) | (refine fun h8 => h9 ⟨by assumption, ?_⟩; simp only [okS, okI]; omega)))).trans decide_not, hF.to [2, 3, 4, 5, 6, 56] rfl, (hS.sub [0, 1, 2, 3] (by decide) (by first | rfl | simp) (by simp))⟩
     ·first | (replace hc758 := of_decide_eq_false hc758) | (replace hc758 := of_decide_eq_true (bnot_f hc758)) | (replace hc758 := bnot_f hc758) | skip
      try (have hc758x := hc758; simp only [okS, okI, okW, okP] at hc758x)
      refine ha_s 14 hF rfl rfl rfl (wn_f hF rfl rfl rfl rfl) (.inr hSS) ?_; clear hF; intro a hF
      refine ha_s 15 hF rfl rfl rfl (wn_f hF rfl rfl rfl rfl) (.inr hSS) ?_; clear hF; intro a hF
      refine ha_s 16 hF rfl rfl rfl (wn_f hF rfl rfl rfl rfl) (.inr hSS) ?_; clear hF; intro a hF
      refine ha_s 17 hF rfl rfl rfl (wn_f hF rfl rfl rfl rfl) (.inr hSS) ?_; clear hF; intro a hF
      refine ha_s 18 hF rfl rfl rfl (wn_u hF rfl rfl rfl rfl) (.inr hSS) ?_; clear hF; intro a hF
      refine ha_s 19 hF rfl rfl rfl (wn_u hF rfl rfl rfl rfl) (.inr hSS) ?_; clear hF; intro a hF
      refine ha_s 20 hF rfl rfl rfl (wn_u hF rfl rfl rfl rfl) (.inr hSS) ?_; clear hF; intro a hF
      refine ha_s 21 hF rfl rfl rfl (wn_u hF rfl rfl rfl rfl) (.inr hSS) ?_; clear hF; intro a hF
      refine ha_s 22 hF rfl rfl rfl (wn_u hF rfl rfl rfl rfl) (.inr hSS) ?_; clear hF; intro a hF
      refine ha_s 23 hF rfl rfl rfl (wn_u hF rfl rfl rfl rfl) (.inr hSS) ?_; clear hF; intro a hF
      refine ha_s 24 hF rfl rfl rfl (wn_u hF rfl rfl rfl rfl) (.inr hSS) ?_; clear hF; intro a hF
      refine ha_s 25 hF rfl rfl rfl (wn_u hF rfl rfl rfl rfl) (.inr hSS) ?_; clear hF; intro a hF
      refine ha_s 26 hF rfl rfl rfl (wn_f hF rfl rfl rfl rfl) (.inr hSS) ?_; clear hF; intro a hF
      refine ha_y 27 hF rfl rfl rfl (wn_t hF rfl rfl rfl rfl) (.inr hSS) (pkF hF rfl rfl rfl) ?_; clear hF; intro a hF
      refine ha_y 28 hF rfl rfl rfl (wn_none rfl) (.inr hSS) (pkF hF rfl rfl rfl) ?_; clear hF; intro a hF
      refine ha_y 29 hF rfl rfl rfl (wn_none rfl) (.inr hSS) (yl_move hF rfl rfl) ?_; clear hF; intro a hF
      refine ha_y 30 hF rfl rfl rfl (wn_t hF rfl rfl rfl rfl) (.inr hSS) (yl_fieldAddr hF rfl rfl (fun w => by kernel_rfl : ∀ w, (Instr.fieldAt 45 (.pointer (some ⟨g752, 0, none⟩)) 4).run Try.prog w = .ok (.pointer (some ⟨g752, 4, none⟩)) w)) ?_; clear hF; intro a hF
      refine ha_y 33 hF rfl rfl rfl (wn_t hF rfl rfl rfl rfl) (.inr hSS) (yl_move hF rfl rfl) ?_; clear hF; intro a hF
      refine ha_l 31 hF rfl rfl rfl (wn_t hF rfl rfl rfl rfl) hSS (yl_load (fun _ h => h) hF rfl rfl 1 rfl ag9 rfl) ?_; clear hF; intro a hF
      refine ha_y 32 hF rfl rfl rfl (wn_t hF rfl rfl rfl rfl) (.inr hSS) (yl_len hF rfl rfl (fun _ => run_lenStr Try.underlying9)) ?_; clear hF; intro a hF
      refine ha_y 34 hF rfl rfl rfl (wn_t hF rfl rfl rfl rfl) (.inr hSS) (yl_bin hF rfl rfl rfl rfl (fun _ => run_neq)) ?_; clear hF; intro a hF
      refine ha_y 35 hF rfl rfl rfl (wn_none rfl) (.inr hSS) (pkF hF rfl rfl rfl) ?_; clear hF; intro a hF
      refine ha_done (by kernel_rfl) ?_ _
      refine cut_n ?_
      exact ⟨_, (dec_d (q := ¬ fitsP st L rm k s c x) (by first | (have hd9i := okD_I (‹okD st L rm› : okD st L rm); have hw9 := hwr (by omega) (by omega); constructor <;> intro h9 <;> first | (intro h8; obtain ⟨h7, h8⟩ := h8; simp only [okS, okI] at h8; omega) | (intro h8; exact h9 ⟨by assumption, by simp only [okS, okI]; omega⟩) | (refine fun h8 => h9 ⟨by assumption, ?_⟩; simp only [okS, okI]; omega)) | (have hd9i := okD_I (‹okD st L rm› : okD st L rm); constructor <;> intro h9 <;> first | (intro h8; obtain ⟨h7, h8⟩ := h8; simp only [okS, okI] at h8; omega) | (intro h8; exact h9 ⟨by assumption, by simp only [okS, okI]; omega⟩) | (refine fun h8 => h9 ⟨by assumption, ?_⟩; simp only [okS, okI]; omega)) | (constructor <;> intro h9 <;> first | (intro h8; obtain ⟨h7, h8⟩ := h8; simp only [okS, okI] at h8; omega) | (intro h8; exact h9 ⟨by assumption, by simp only [okS, okI]; omega⟩) | (refine fun h8 => h9 ⟨by assumption, ?_⟩; simp only [okS, okI]; omega)))).trans decide_not, hF.to [2, 3, 4, 5, 6, 56] rfl, (hS.sub [0, 1, 2, 3] (by decide) (by first | rfl | simp) (by simp))⟩
  clear hF hS
  rintro a w ⟨bad, hcut754_0, hF, hS⟩
  have hbad := hcut754_0
  refine then_n ?_
  refine c_cond hF rfl (fun hc761 => ?_) (fun hc761 => ?_)
  ·first | (replace hc761 := of_decide_eq_true hc761) | (replace hc761 := of_decide_eq_false (bnot_t hc761)) | (replace hc761 := bnot_t hc761) | skip
   try (have hc761x := hc761; simp only [okS, okI, okW, okP] at hc761x)
   refine c_seq ?_
   refine c_region ?_
   have hnf : ¬ fitsP st L rm k s c x := fun h9 => by have h8 : bad = true := (by assumption); rw [decide_eq_true h9, h8] at hbad; simp at hbad
   refine seq_yl hF (wn_none rfl) rfl rfl (yl_loadK (rs := [_, _, _]) (fun _ h => h ▸ hS) hF rfl rfl 2 rfl ag43 sz43 rfl rfl) ?_; clear hF; intro a hF
   refine seq_wp (wn_none rfl) (wp_store (cs' := #[_, _, _]) hF hS rfl rfl rfl rfl 0 rfl sz43 (by simp [Value.cells, Value.oneCell']) (by simp [Value.cells]) rfl ?_)
   clear hF hS; intro a w hF hS
   refine asN hF rfl rfl rfl rfl rfl ?_; clear hF; intro a hF
   refine asN hF rfl rfl rfl rfl rfl ?_; clear hF; intro a hF
   refine wpList_nil ?_
   refine then_n ?_
   refine wp_ret ?_
   refine then_r ?_
   refine ret_ctt hF rfl (resC hS rfl 0 rfl ag43 sz43) rfl rfl ?_
   exact ⟨_, rfl, _, _, _, _, _, _, false, rfl, run_bad hnf, .inr (.inl ⟨rfl, rfl⟩), (hS.sub [] (by decide) (by first | rfl | simp) (by simp))⟩
  ·first | (replace hc761 := of_decide_eq_false hc761) | (replace hc761 := of_decide_eq_true (bnot_f hc761)) | (replace hc761 := bnot_f hc761) | skip
   try (have hc761x := hc761; simp only [okS, okI, okW, okP] at hc761x)
   refine wp_skip ?_
   refine then_n ?_
   refine c_seq ?_
   refine c_region ?_
   have hfit : fitsP st L rm k s c x := by have h8 : bad = false := (by assumption); rw [h8] at hbad; simpa using hbad
   have hfd := okD_I hfit.1
   refine seq_yl hF (wn_none rfl) rfl rfl (yl_fieldAddr hF rfl rfl (fun w => by kernel_rfl : ∀ w, (Instr.fieldAt 45 (.pointer (some ⟨g752, 0, none⟩)) 8).run Try.prog w = .ok (.pointer (some ⟨g752, 8, none⟩)) w)) ?_; clear hF; intro a hF
   refine seq_yl hF (wn_none rfl) rfl rfl (yl_loadK (rs := [_, _, _, _]) (fun _ h => h ▸ hS) hF rfl rfl 1 rfl ag27 sz27 rfl rfl) ?_; clear hF; intro a hF
   refine seq_wp (wn_none rfl) (wp_alloc (cs := #[_, _, _, _]) hF hS rfl rfl rfl zr27 rfl ?_)
   clear hF hS; intro a w g762 hF hS
   refine seq_wp (wn_none rfl) (wp_store (cs' := #[_, _, _, _]) hF hS rfl rfl rfl rfl 0 rfl sz27 (by simp [Value.cells, Value.oneCell']) (by simp [Value.cells]) rfl ?_)
   clear hF hS; intro a w hF hS
   refine wpList_nil ?_
   refine then_n ?_
   refine c_seq ?_
   refine c_seq ?_
   refine c_region ?_
   refine seq_yl hF (wn_none rfl) rfl rfl (yl_fieldAddr hF rfl rfl (fun w => by kernel_rfl : ∀ w, (Instr.fieldAt 27 (.pointer (some ⟨g762, 0, none⟩)) 0).run Try.prog w = .ok (.pointer (some ⟨g762, 0, none⟩)) w)) ?_; clear hF; intro a hF
   refine seq_yl hF (wn_none rfl) rfl rfl (yl_load (fun _ h => h ▸ hS) hF rfl rfl 0 rfl ag25 rfl) ?_; clear hF; intro a hF
   refine seq_yl hF (wn_none rfl) rfl rfl (yl_bin hF rfl rfl rfl rfl (fun _ => run_neq)) ?_; clear hF; intro a hF
   refine wpList_nil ?_
   refine then_n ?_
   refine c_cond hF rfl (fun hc763 => ?_) (fun hc763 => ?_)
   ·first | (replace hc763 := of_decide_eq_true hc763) | (replace hc763 := of_decide_eq_false (bnot_t hc763)) | (replace hc763 := bnot_t hc763) | skip
    try (have hc763x := hc763; simp only [okS, okI, okW, okP] at hc763x)
    refine c_seq ?_
    refine c_seq ?_
    refine c_region ?_
    refine seq_yl hF (wn_none rfl) rfl rfl (yl_fieldAddr hF rfl rfl (fun w => by kernel_rfl : ∀ w, (Instr.fieldAt 45 (.pointer (some ⟨g752, 0, none⟩)) 1).run Try.prog w = .ok (.pointer (some ⟨g752, 1, none⟩)) w)) ?_; clear hF; intro a hF
    refine seq_yl hF (wn_none rfl) rfl rfl (yl_load (fun _ h => h ▸ hS) hF rfl rfl 2 rfl ag3 rfl) ?_; clear hF; intro a hF
    refine seq_yl hF (wn_none rfl) rfl rfl (yl_bin hF rfl rfl rfl rfl (fun _ => run_neq)) ?_; clear hF; intro a hF
    refine wpList_nil ?_
    refine then_n ?_
    refine c_cond hF rfl (fun hc764 => ?_) (fun hc764 => ?_)
    ·first | (replace hc764 := of_decide_eq_true hc764) | (replace hc764 := of_decide_eq_false (bnot_t hc764)) | (replace hc764 := bnot_t hc764) | skip
     try (have hc764x := hc764; simp only [okS, okI, okW, okP] at hc764x)
     refine c_seq ?_
     refine ha_startS hS [3, 0] 6 (by kernel_rfl) ?_; clear hS; intro w hS
     have hSS := hS.sub [3, 0] (by decide) rfl (by simp)
     refine ha_y 1 hF rfl rfl rfl (wn_none rfl) (.inr hSS) (yl_fieldAddr hF rfl rfl (fun w => by kernel_rfl : ∀ w, (Instr.fieldAt 27 (.pointer (some ⟨g762, 0, none⟩)) 0).run Try.prog w = .ok (.pointer (some ⟨g762, 0, none⟩)) w)) ?_; clear hF; intro a hF
     refine ha_l 0 hF rfl rfl rfl (wn_none rfl) hSS (yl_loadK (rs := [_, _, _]) (fun _ h => h) hF rfl rfl 0 rfl ag43 sz43 rfl rfl) ?_; clear hF; intro a hF
     refine ha_l 2 hF rfl rfl rfl (wn_none rfl) hSS (yl_load (fun _ h => h) hF rfl rfl 1 rfl ag25 rfl) ?_; clear hF; intro a hF
     refine ha_one 3 (by kernel_rfl) rfl (wn_none rfl) (wp_store (cs' := #[_, _, _]) hF hS rfl rfl rfl rfl 1 rfl sz43 (by simp [Value.cells, Value.oneCell']) (by simp [Value.cells]) rfl ?_)
     clear hF hS; intro a w hF hS
     replace hSS := hS.sub [3, 0] (by decide) rfl (by simp)
     refine ⟨.inr hSS, ?_⟩
     refine ha_y 4 hF rfl rfl rfl (wn_none rfl) (.inr hSS) (yl_assign hF rfl rfl) ?_; clear hF; intro a hF
     refine ha_y 5 hF rfl rfl rfl (wn_none rfl) (.inr hSS) (yl_assign hF rfl rfl) ?_; clear hF; intro a hF
     refine ha_done (by kernel_rfl) ?_ _
     refine then_n ?_
     refine wp_ret ?_
     refine then_r ?_
     refine then_r ?_
     refine ret_ctt hF rfl (resC hS rfl 1 rfl ag43 sz43) rfl rfl ?_
     exact ⟨_, rfl, _, _, _, _, _, _, false, rfl, (by first | exact run_err hfit (by omega) (by omega) | exact run_torn hfit (by omega) (by omega) (torn_none (fun h9 => by obtain ⟨h7, h8⟩ := h9; first | omega | simp_all) (by omega))), .inr (.inl ⟨rfl, rfl⟩), (hS.sub [] (by decide) (by first | rfl | simp) (by simp))⟩
    ·first | (replace hc764 := of_decide_eq_false hc764) | (replace hc764 := of_decide_eq_true (bnot_f hc764)) | (replace hc764 := bnot_f hc764) | skip
     try (have hc764x := hc764; simp only [okS, okI, okW, okP] at hc764x)
     refine wp_skip ?_
     refine then_n ?_
     refine c_seq ?_
     refine c_region ?_
     have hk2 : k = 2 := by omega
     obtain ⟨hs9, hx9⟩ : okS (st.size : Int) s c ∧ (x.size : Int) = c * 8 := by have h9 := hfit.2; rcases h9 with h9 | h9 | h9; omega; omega; exact h9.2
     have hs9x := hs9; simp only [okS, okI] at hs9x; have hdn := doneF_b (dn := dn) (c := c) (by omega)
     refine seq_yl hF (wn_none rfl) rfl rfl (yl_fieldAddr hF rfl rfl (fun w => by kernel_rfl : ∀ w, (Instr.fieldAt 27 (.pointer (some ⟨g762, 0, none⟩)) 1).run Try.prog w = .ok (.pointer (some ⟨g762, 1, none⟩)) w)) ?_; clear hF; intro a hF
     refine seq_yl hF (wn_none rfl) rfl rfl (yl_load (fun _ h => h ▸ hS) hF rfl rfl 0 rfl ag3 rfl) ?_; clear hF; intro a hF
     refine seq_yl hF (wn_none rfl) rfl rfl (yl_fieldAddr hF rfl rfl (fun w => by kernel_rfl : ∀ w, (Instr.fieldAt 45 (.pointer (some ⟨g752, 0, none⟩)) 3).run Try.prog w = .ok (.pointer (some ⟨g752, 3, none⟩)) w)) ?_; clear hF; intro a hF
     refine seq_yl hF (wn_none rfl) rfl rfl (yl_load (fun _ h => h ▸ hS) hF rfl rfl 2 rfl ag3 rfl) ?_; clear hF; intro a hF
     refine seq_yl hF (wn_none rfl) rfl rfl (yl_min2 hF rfl rfl rfl) ?_; clear hF; intro a hF
     refine seq_yl hF (wn_none rfl) rfl rfl (yl_max2 hF rfl rfl rfl) ?_; clear hF; intro a hF
     replace hF := fr_seti (b' := ((doneF dn c))) hF (rfl)
     refine asN hF rfl rfl rfl rfl rfl ?_; clear hF; intro a hF
     refine wpList_nil ?_
     refine then_n ?_
     refine c_seq ?_
     refine c_region ?_
     refine mvN hF rfl rfl rfl rfl rfl ?_; clear hF; intro a hF
     refine seq_yl hF (wn_none rfl) rfl rfl (yl_bin hF rfl rfl rfl rfl (fun _ => run_mul (by refine ⟨?_, ?_⟩ <;> omega))) ?_; clear hF; intro a hF
     refine asN hF rfl rfl rfl rfl rfl ?_; clear hF; intro a hF
     refine wpList_nil ?_
     refine then_n ?_
     refine c_seq ?_
     refine c_seq ?_
     refine c_region ?_
     refine seq_yl hF (wn_none rfl) rfl rfl (yl_fieldAddr hF rfl rfl (fun w => by kernel_rfl : ∀ w, (Instr.fieldAt 27 (.pointer (some ⟨g762, 0, none⟩)) 2).run Try.prog w = .ok (.pointer (some ⟨g762, 2, none⟩)) w)) ?_; clear hF; intro a hF
     refine seq_yl hF (wn_none rfl) rfl rfl (yl_load (fun _ h => h ▸ hS) hF rfl rfl 0 rfl ag4 rfl) ?_; clear hF; intro a hF
     refine mvN hF rfl rfl rfl rfl rfl ?_; clear hF; intro a hF
     refine fr_split hF (fun hc765 hF => ?_) (fun hc765 hF => ?_)
     ·first | (replace hc765 := of_decide_eq_true hc765) | (replace hc765 := of_decide_eq_false (bnot_t hc765)) | (replace hc765 := bnot_t hc765) | skip
      try (have hc765x := hc765; simp only [okS, okI, okW, okP] at hc765x)
      refine seq_yl hF (wn_t hF rfl rfl rfl rfl) rfl rfl (yl_move hF rfl rfl) ?_; clear hF; intro a hF
      refine seq_yl hF (wn_t hF rfl rfl rfl rfl) rfl rfl (yl_fieldAddr hF rfl rfl (fun w => by kernel_rfl : ∀ w, (Instr.fieldAt 45 (.pointer (some ⟨g752, 0, none⟩)) 3).run Try.prog w = .ok (.pointer (some ⟨g752, 3, none⟩)) w)) ?_; clear hF; intro a hF
      refine seq_yl hF (wn_t hF rfl rfl rfl rfl) rfl rfl (yl_load (fun _ h => h ▸ hS) hF rfl rfl 2 rfl ag3 rfl) ?_; clear hF; intro a hF
      refine seq_yl hF (wn_t hF rfl rfl rfl rfl) rfl rfl (yl_bin hF rfl rfl rfl rfl (fun _ => run_lss)) ?_; clear hF; intro a hF
      refine seq_yl hF (wn_none rfl) rfl rfl (pkT hF rfl rfl rfl) ?_; clear hF; intro a hF
      refine wpList_nil ?_
      refine then_n ?_
      refine c_cond hF rfl (fun hc766 => ?_) (fun hc766 => ?_)
      ·first | (replace hc766 := of_decide_eq_true hc766) | (replace hc766 := of_decide_eq_false (bnot_t hc766)) | (replace hc766 := bnot_t hc766) | skip
       try (have hc766x := hc766; simp only [okS, okI, okW, okP] at hc766x)
       refine c_seq ?_
       refine c_region ?_
       refine seq_yl hF (wn_none rfl) rfl rfl (yl_loadK (rs := [_, _, _]) (fun _ h => h ▸ hS) hF rfl rfl 3 rfl ag43 sz43 rfl rfl) ?_; clear hF; intro a hF
       refine seq_yl hF (wn_none rfl) rfl rfl (yl_fieldAddr hF rfl rfl (fun w => by kernel_rfl : ∀ w, (Instr.fieldAt 45 (.pointer (some ⟨g752, 0, none⟩)) 2).run Try.prog w = .ok (.pointer (some ⟨g752, 2, none⟩)) w)) ?_; clear hF; intro a hF
       refine seq_yl hF (wn_none rfl) rfl rfl (yl_load (fun _ h => h ▸ hS) hF rfl rfl 2 rfl ag3 rfl) ?_; clear hF; intro a hF
       refine mvN hF rfl rfl rfl rfl rfl ?_; clear hF; intro a hF
       refine seq_yl hF (wn_none rfl) rfl rfl (yl_bin hF rfl rfl rfl rfl (fun _ => run_add (by refine ⟨?_, ?_⟩ <;> omega))) ?_; clear hF; intro a hF
       refine seq_wp (wn_none rfl) (wp_call (vs := [_, _]) hF rfl rfl rfl rfl cf47 (vers2_any st _ L (rm) (((s) + ((doneF dn c)))) _ (hS.rdRo 4 rfl) (by first | omega | (simp; done)) (by first | omega | (simp; done))) ?_)
       clear hF; rintro _ w ⟨v767, M768, rfl, hM769, hS1⟩ a hF
       replace hS := hS.callB hS1 rfl; clear hS1
       obtain ⟨Av767, cv767, rfl⟩ := hS.form 0 rfl
       have hM769l := vers_len st L (rm) (((s) + ((doneF dn c)))); rw [← hM769] at hM769l
       have hM7692 : M768 = versC st L (((s) + ((doneF dn c)))) := hM769.trans (if_pos ⟨hfit.1, okS_in hs9 (i := doneF dn c) hdn.1 (by omega)⟩)
       have hM769n := versC_len st L (((s) + ((doneF dn c)))); rw [← hM7692] at hM769n
       refine asN hF rfl rfl rfl rfl rfl ?_; clear hF; intro a hF
       refine wpList_nil ?_
       refine then_n ?_
       refine c_seq ?_
       refine ha_startS hS [3, 0] 14 (by kernel_rfl) ?_; clear hS; intro w hS
       have hSS := hS.sub [3, 0] (by decide) rfl (by simp)
       refine ha_y 0 hF rfl rfl rfl (wn_none rfl) (.inr hSS) (yl_fieldAddr hF rfl rfl (fun w => by kernel_rfl : ∀ w, (Instr.fieldAt 45 (.pointer (some ⟨g752, 0, none⟩)) 4).run Try.prog w = .ok (.pointer (some ⟨g752, 4, none⟩)) w)) ?_; clear hF; intro a hF
       refine ha_y 2 hF rfl rfl rfl (wn_none rfl) (.inr hSS) (yl_move hF rfl rfl) ?_; clear hF; intro a hF
       refine ha_y 3 hF rfl rfl rfl (wn_none rfl) (.inr hSS) (yl_move hF rfl rfl) ?_; clear hF; intro a hF
       refine ha_y 4 hF rfl rfl rfl (wn_none rfl) (.inr hSS) (yl_bin hF rfl rfl rfl rfl (fun _ => run_add (by refine ⟨?_, ?_⟩ <;> omega))) ?_; clear hF; intro a hF
       refine ha_y 6 hF rfl rfl rfl (wn_none rfl) (.inr hSS) (yl_move hF rfl rfl) ?_; clear hF; intro a hF
       refine ha_y 7 hF rfl rfl rfl (wn_none rfl) (.inr hSS) (yl_move hF rfl rfl) ?_; clear hF; intro a hF
       refine ha_y 8 hF rfl rfl rfl (wn_none rfl) (.inr hSS) (yl_len hF rfl rfl (fun _ => run_lenRd sl76 (hS.rdRow 0 rfl))) ?_; clear hF; intro a hF
       refine ha_y 9 hF rfl rfl rfl (wn_none rfl) (.inr hSS) (yl_bin hF rfl rfl rfl rfl (fun _ => run_dec (c := 1) (by omega) (by omega))) ?_; clear hF; intro a hF
       have hlt_hx770 : ((M768).length - 1) < (M768).length := by first | omega | (simp; done) | (simp; omega)
       obtain ⟨ad771, rfl⟩ := rd_some (hS.rdRow 0 rfl) hlt_hx770
       obtain ⟨x770, hx770⟩ := get_some hlt_hx770
       refine ha_y 10 hF rfl rfl rfl (wn_none rfl) (.inr hSS) (yl_indexAddr hF rfl rfl rfl (fun _ => run_idx' sl76 sz9 (hS.rdRow 0 rfl) hlt_hx770)) ?_; clear hF; intro a hF
       refine ha_l 1 hF rfl rfl rfl (wn_none rfl) hSS (yl_load (fun _ h => h) hF rfl rfl 0 rfl ag9 rfl) ?_; clear hF; intro a hF
       have hz772 := subs_size (s := x) (i := ((((doneF dn c)) * (8 : Int)))) (j := ((((((doneF dn c)) * (8 : Int))) + (8 : Int)))) (by omega) (by omega) (by omega)
       refine ha_y 5 hF rfl rfl rfl (wn_none rfl) (.inr hSS) (yl_subsLH (s := x) (i := ((((doneF dn c)) * (8 : Int)))) (j := ((((((doneF dn c)) * (8 : Int))) + (8 : Int)))) hF rfl rfl rfl rfl Try.underlying9 (by omega) (by omega) (by omega)) ?_; clear hF; intro a hF
       refine ha_l 11 hF rfl rfl rfl (wn_none rfl) hSS (yl_loadAt hF rfl rfl ag9 (fun _ h => rd_cell0 (enc := encS) (Sat.rdRow h 1 rfl) encS_len hx770 rfl rfl)) ?_; clear hF; intro a hF
       have hxn := newest_at (k := (M768).length - 1) (by rw [← hM7692]; exact hx770) (by rw [← hM7692])
       have hxs := newest_size hfit.1.2.2.2 (okS_in hs9 (i := doneF dn c) hdn.1 (by omega)); rw [← hxn] at hxs
       refine ha_one 12 (by kernel_rfl) rfl (wn_none rfl) (wp_call (vs := [_, _]) hF rfl rfl rfl rfl cf32 (torn2_any (subs x ((((doneF dn c)) * (8 : Int))) ((((((doneF dn c)) * (8 : Int))) + (8 : Int)))) x770 _ (by omega) (by omega) (by omega) (by omega)) ?_)
       clear hF; rintro _ w ⟨rfl, hS1⟩ a hF
       replace hS := hS.callB hS1 rfl; clear hS1
       have hz773 := cat_size (subs (subs x ((((doneF dn c)) * (8 : Int))) ((((((doneF dn c)) * (8 : Int))) + (8 : Int)))) 0 4) (subs x770 4 ((x770).size : Int)); rw [subs_size (s := (subs x ((((doneF dn c)) * (8 : Int))) ((((((doneF dn c)) * (8 : Int))) + (8 : Int))))) (i := 0) (j := 4) (by omega) (by omega) (by omega), subs_size (s := x770) (i := 4) (j := ((x770).size : Int)) (by omega) (by omega) (by omega)] at hz773
       replace hSS := hS.sub [3, 0] (by decide) rfl (by simp)
       refine ⟨.inr hSS, ?_⟩
       refine ha_y 13 hF rfl rfl rfl (wn_none rfl) (.inr hSS) (yl_assign hF rfl rfl) ?_; clear hF; intro a hF
       refine ha_done (by kernel_rfl) ?_ _
       refine then_n ?_
       refine c_seq ?_
       refine c_seq ?_
       refine c_region ?_
       refine mvN hF rfl rfl rfl rfl rfl ?_; clear hF; intro a hF
       refine seq_yl hF (wn_none rfl) rfl rfl (yl_bin hF rfl rfl rfl rfl (fun _ => run_gtr)) ?_; clear hF; intro a hF
       refine wpList_nil ?_
       refine then_n ?_
       refine c_cond hF rfl (fun hc774 => ?_) (fun hc774 => ?_)
       ·first | (replace hc774 := of_decide_eq_true hc774) | (replace hc774 := of_decide_eq_false (bnot_t hc774)) | (replace hc774 := bnot_t hc774) | skip
        try (have hc774x := hc774; simp only [okS, okI, okW, okP] at hc774x)
        refine ha_startS hS [4, 3] 13 (by kernel_rfl) ?_; clear hS; intro w hS
        have hSS := hS.sub [4, 3] (by decide) rfl (by simp)
        refine ha_y 1 hF rfl rfl rfl (wn_none rfl) (.inr hSS) (yl_fieldAddr hF rfl rfl (fun w => by kernel_rfl : ∀ w, (Instr.fieldAt 45 (.pointer (some ⟨g752, 0, none⟩)) 2).run Try.prog w = .ok (.pointer (some ⟨g752, 2, none⟩)) w)) ?_; clear hF; intro a hF
        refine ha_y 3 hF rfl rfl rfl (wn_none rfl) (.inr hSS) (yl_fieldAddr hF rfl rfl (fun w => by kernel_rfl : ∀ w, (Instr.fieldAt 45 (.pointer (some ⟨g752, 0, none⟩)) 4).run Try.prog w = .ok (.pointer (some ⟨g752, 4, none⟩)) w)) ?_; clear hF; intro a hF
        refine ha_y 5 hF rfl rfl rfl (wn_none rfl) (.inr hSS) (yl_move hF rfl rfl) ?_; clear hF; intro a hF
        refine ha_y 7 hF rfl rfl rfl (wn_none rfl) (.inr hSS) (yl_fieldAddr hF rfl rfl (fun w => by kernel_rfl : ∀ w, (Instr.fieldAt 45 (.pointer (some ⟨g752, 0, none⟩)) 5).run Try.prog w = .ok (.pointer (some ⟨g752, 5, none⟩)) w)) ?_; clear hF; intro a hF
        refine ha_l 0 hF rfl rfl rfl (wn_none rfl) hSS (yl_loadK (rs := [_, _, _]) (fun _ h => h) hF rfl rfl 0 rfl ag43 sz43 rfl rfl) ?_; clear hF; intro a hF
        refine ha_l 2 hF rfl rfl rfl (wn_none rfl) hSS (yl_load (fun _ h => h) hF rfl rfl 1 rfl ag3 rfl) ?_; clear hF; intro a hF
        refine ha_l 4 hF rfl rfl rfl (wn_none rfl) hSS (yl_load (fun _ h => h) hF rfl rfl 1 rfl ag9 rfl) ?_; clear hF; intro a hF
        have hz775 := subs_size (s := x) (i := 0) (j := ((((doneF dn c)) * (8 : Int)))) (by omega) (by omega) (by omega)
        refine ha_y 6 hF rfl rfl rfl (wn_none rfl) (.inr hSS) (yl_subsH (s := x) (j := ((((doneF dn c)) * (8 : Int)))) hF rfl rfl rfl Try.underlying9 (by omega) (by omega)) ?_; clear hF; intro a hF
        refine ha_l 8 hF rfl rfl rfl (wn_none rfl) hSS (yl_load (fun _ h => h) hF rfl rfl 1 rfl ag4 rfl) ?_; clear hF; intro a hF
        refine ha_one 9 (by kernel_rfl) rfl (wn_none rfl) (wp_call (vs := [_, _, _, _]) hF rfl rfl rfl rfl cf48 (write2_any st _ L (rm) (s) (subs x 0 ((((doneF dn c)) * (8 : Int)))) fua _ (hS.rdRo 5 rfl) (by first | omega | (simp; done)) (by first | omega | (simp; done)) (by first | omega | (simp; done))) ?_)
        clear hF; rintro _ w ⟨st776, v777, Lq778, rm779, b780, rfl, hq781, hS1⟩ a hF
        replace hS := hS.callB hS1 rfl; clear hS1
        obtain ⟨Av777, cv777, rfl⟩ := hS.form 0 rfl
        have hq781b := writeF_bd hq781
        obtain ⟨rfl, -, -, hq781d, hq781s, rfl⟩ := (writeF_ok hq781).resolve_right (fun h9 => h9.2.1 (⟨hfit.1, by unfold okW okS okI; omega⟩))
        have hq781i := okD_I hq781d
        replace hSS := hS.sub [5, 4] (by decide) rfl (by simp)
        refine ⟨.inr hSS, ?_⟩
        refine ha_y 10 hF rfl rfl rfl (wn_none rfl) (.inr hSS) (yl_move hF rfl rfl) ?_; clear hF; intro a hF
        refine ha_y 11 hF rfl rfl rfl (wn_none rfl) (.inr hSS) (yl_extract hF rfl rfl rfl) ?_; clear hF; intro a hF
        refine ha_y 12 hF rfl rfl rfl (wn_none rfl) (.inr hSS) (yl_extract hF rfl rfl rfl) ?_; clear hF; intro a hF
        refine ha_one 13 (by kernel_rfl) rfl (wn_none rfl) (wp_store (cs' := #[_, _, _]) hF hS rfl rfl rfl rfl 5 rfl sz43 (by simp [Value.cells, Value.oneCell']) (by simp [Value.cells]) rfl ?_)
        clear hF hS; intro a w hF hS
        refine ⟨.inl (by kernel_rfl), ?_⟩
        refine ha_done (by kernel_rfl) ?_ _
        refine then_n ?_
        refine c_seq ?_
        refine c_region ?_
        refine seq_yl hF (wn_none rfl) rfl rfl (yl_loadK (rs := [_, _, _]) (fun _ h => h ▸ hS) hF rfl rfl 5 rfl ag43 sz43 rfl rfl) ?_; clear hF; intro a hF
        refine seq_yl hF (wn_none rfl) rfl rfl (yl_fieldAddr hF rfl rfl (fun w => by kernel_rfl : ∀ w, (Instr.fieldAt 45 (.pointer (some ⟨g752, 0, none⟩)) 2).run Try.prog w = .ok (.pointer (some ⟨g752, 2, none⟩)) w)) ?_; clear hF; intro a hF
        refine seq_yl hF (wn_none rfl) rfl rfl (yl_load (fun _ h => h ▸ hS) hF rfl rfl 4 rfl ag3 rfl) ?_; clear hF; intro a hF
        refine mvN hF rfl rfl rfl rfl rfl ?_; clear hF; intro a hF
        refine seq_yl hF (wn_none rfl) rfl rfl (yl_bin hF rfl rfl rfl rfl (fun _ => run_add (by refine ⟨?_, ?_⟩ <;> omega))) ?_; clear hF; intro a hF
        refine mvN hF rfl rfl rfl rfl rfl ?_; clear hF; intro a hF
        refine seq_yl hF (wn_none rfl) rfl rfl (yl_fieldAddr hF rfl rfl (fun w => by kernel_rfl : ∀ w, (Instr.fieldAt 45 (.pointer (some ⟨g752, 0, none⟩)) 5).run Try.prog w = .ok (.pointer (some ⟨g752, 5, none⟩)) w)) ?_; clear hF; intro a hF
        refine seq_yl hF (wn_none rfl) rfl rfl (yl_load (fun _ h => h ▸ hS) hF rfl rfl 4 rfl ag4 rfl) ?_; clear hF; intro a hF
        refine seq_wp (wn_none rfl) (wp_call (vs := [_, _, _, _]) hF rfl rfl rfl rfl cf48 (write2_any st776 _ Lq778 ((rm)) (((s) + ((doneF dn c)))) (subs (subs x ((((doneF dn c)) * (8 : Int))) ((((((doneF dn c)) * (8 : Int))) + (8 : Int)))) 0 4 ++ subs x770 4 ((x770).size : Int)) fua _ (hS.rdRow 0 rfl) (by first | omega | (simp; done)) (by first | omega | (simp; done)) (by first | omega | (simp; done))) ?_)
        clear hF; rintro _ w ⟨st782, v783, Lq784, rm785, b786, rfl, hq787, hS1⟩ a hF
        replace hS := hS.callB hS1 rfl; clear hS1
        obtain ⟨Av783, cv783, rfl⟩ := hS.form 0 rfl
        have hq787b := writeF_bd hq787
        obtain ⟨rfl, -, -, hq787d, hq787s, rfl⟩ := (writeF_ok hq787).resolve_right (fun h9 => h9.2.1 (⟨hq781d, okW_of (by unfold okS okI; omega) (by omega)⟩))
        have hq787i := okD_I hq787d
        refine mvN hF rfl rfl rfl rfl rfl ?_; clear hF; intro a hF
        refine seq_yl hF (wn_none rfl) rfl rfl (yl_extract hF rfl rfl rfl) ?_; clear hF; intro a hF
        refine seq_yl hF (wn_none rfl) rfl rfl (yl_extract hF rfl rfl rfl) ?_; clear hF; intro a hF
        refine seq_wp (wn_none rfl) (wp_store (cs' := #[_, _, _]) hF hS rfl rfl rfl rfl 6 rfl sz43 (by simp [Value.cells, Value.oneCell']) (by simp [Value.cells]) rfl ?_)
        clear hF hS; intro a w hF hS
        refine wpList_nil ?_
        refine then_n ?_
        refine c_seq ?_
        refine ha_startS hS [6, 3] 6 (by kernel_rfl) ?_; clear hS; intro w hS
        have hSS := hS.sub [6, 3] (by decide) rfl (by simp)
        refine ha_y 1 hF rfl rfl rfl (wn_none rfl) (.inr hSS) (yl_fieldAddr hF rfl rfl (fun w => by kernel_rfl : ∀ w, (Instr.fieldAt 27 (.pointer (some ⟨g762, 0, none⟩)) 0).run Try.prog w = .ok (.pointer (some ⟨g762, 0, none⟩)) w)) ?_; clear hF; intro a hF
        refine ha_l 0 hF rfl rfl rfl (wn_none rfl) hSS (yl_loadK (rs := [_, _, _]) (fun _ h => h) hF rfl rfl 0 rfl ag43 sz43 rfl rfl) ?_; clear hF; intro a hF
        refine ha_l 2 hF rfl rfl rfl (wn_none rfl) hSS (yl_load (fun _ h => h) hF rfl rfl 1 rfl ag25 rfl) ?_; clear hF; intro a hF
        refine ha_one 3 (by kernel_rfl) rfl (wn_none rfl) (wp_store (cs' := #[_, _, _]) hF hS rfl rfl rfl rfl 4 rfl sz43 (by simp [Value.cells, Value.oneCell']) (by simp [Value.cells]) rfl ?_)
        clear hF hS; intro a w hF hS
        replace hSS := hS.sub [6, 3] (by decide) rfl (by simp)
        refine ⟨.inr hSS, ?_⟩
        refine ha_y 4 hF rfl rfl rfl (wn_none rfl) (.inr hSS) (yl_assign hF rfl rfl) ?_; clear hF; intro a hF
        refine ha_y 5 hF rfl rfl rfl (wn_none rfl) (.inr hSS) (yl_assign hF rfl rfl) ?_; clear hF; intro a hF
        refine ha_done (by kernel_rfl) ?_ _
        refine then_n ?_
        refine wp_ret ?_
        refine then_r ?_
        refine then_r ?_
        refine ret_ctt hF rfl (resC hS rfl 4 rfl ag43 sz43) rfl rfl ?_
        exact ⟨_, rfl, _, _, _, _, _, _, true, rfl, run_torn hfit (by omega) hk2 (torn_two hfit.1 hs9 hx9 (by assumption) (by omega) hxn (by omega) rfl hq781 hq787), .inl rfl, (hS.sub [0] (by decide) (by first | rfl | simp) (by simp))⟩
       ·first | (replace hc774 := of_decide_eq_false hc774) | (replace hc774 := of_decide_eq_true (bnot_f hc774)) | (replace hc774 := bnot_f hc774) | skip
        try (have hc774x := hc774; simp only [okS, okI, okW, okP] at hc774x)
        refine wp_skip ?_
        refine then_n ?_
        refine c_seq ?_
        refine c_region ?_
        refine seq_yl hF (wn_none rfl) rfl rfl (yl_loadK (rs := [_, _, _]) (fun _ h => h ▸ hS) hF rfl rfl 4 rfl ag43 sz43 rfl rfl) ?_; clear hF; intro a hF
        refine seq_yl hF (wn_none rfl) rfl rfl (yl_fieldAddr hF rfl rfl (fun w => by kernel_rfl : ∀ w, (Instr.fieldAt 45 (.pointer (some ⟨g752, 0, none⟩)) 2).run Try.prog w = .ok (.pointer (some ⟨g752, 2, none⟩)) w)) ?_; clear hF; intro a hF
        refine seq_yl hF (wn_none rfl) rfl rfl (yl_load (fun _ h => h ▸ hS) hF rfl rfl 3 rfl ag3 rfl) ?_; clear hF; intro a hF
        refine mvN hF rfl rfl rfl rfl rfl ?_; clear hF; intro a hF
        refine seq_yl hF (wn_none rfl) rfl rfl (yl_bin hF rfl rfl rfl rfl (fun _ => run_add (by refine ⟨?_, ?_⟩ <;> omega))) ?_; clear hF; intro a hF
        refine mvN hF rfl rfl rfl rfl rfl ?_; clear hF; intro a hF
        refine seq_yl hF (wn_none rfl) rfl rfl (yl_fieldAddr hF rfl rfl (fun w => by kernel_rfl : ∀ w, (Instr.fieldAt 45 (.pointer (some ⟨g752, 0, none⟩)) 5).run Try.prog w = .ok (.pointer (some ⟨g752, 5, none⟩)) w)) ?_; clear hF; intro a hF
        refine seq_yl hF (wn_none rfl) rfl rfl (yl_load (fun _ h => h ▸ hS) hF rfl rfl 3 rfl ag4 rfl) ?_; clear hF; intro a hF
        refine seq_wp (wn_none rfl) (wp_call (vs := [_, _, _, _]) hF rfl rfl rfl rfl cf48 (write2_any st _ L (rm) (((s) + ((doneF dn c)))) (subs (subs x ((((doneF dn c)) * (8 : Int))) ((((((doneF dn c)) * (8 : Int))) + (8 : Int)))) 0 4 ++ subs x770 4 ((x770).size : Int)) fua _ (hS.rdRo 5 rfl) (by first | omega | (simp; done)) (by first | omega | (simp; done)) (by first | omega | (simp; done))) ?_)
        clear hF; rintro _ w ⟨st788, v789, Lq790, rm791, b792, rfl, hq793, hS1⟩ a hF
        replace hS := hS.callB hS1 rfl; clear hS1
        obtain ⟨Av789, cv789, rfl⟩ := hS.form 0 rfl
        have hq793b := writeF_bd hq793
        obtain ⟨rfl, -, -, hq793d, hq793s, rfl⟩ := (writeF_ok hq793).resolve_right (fun h9 => h9.2.1 (⟨hfit.1, okW_of (by unfold okS okI; omega) (by omega)⟩))
        have hq793i := okD_I hq793d
        refine mvN hF rfl rfl rfl rfl rfl ?_; clear hF; intro a hF
        refine seq_yl hF (wn_none rfl) rfl rfl (yl_extract hF rfl rfl rfl) ?_; clear hF; intro a hF
        refine seq_yl hF (wn_none rfl) rfl rfl (yl_extract hF rfl rfl rfl) ?_; clear hF; intro a hF
        refine seq_wp (wn_none rfl) (wp_store (cs' := #[_, _, _]) hF hS rfl rfl rfl rfl 5 rfl sz43 (by simp [Value.cells, Value.oneCell']) (by simp [Value.cells]) rfl ?_)
        clear hF hS; intro a w hF hS
        refine wpList_nil ?_
        refine then_n ?_
        refine c_seq ?_
        refine ha_startS hS [5, 2] 6 (by kernel_rfl) ?_; clear hS; intro w hS
        have hSS := hS.sub [5, 2] (by decide) rfl (by simp)
        refine ha_y 1 hF rfl rfl rfl (wn_none rfl) (.inr hSS) (yl_fieldAddr hF rfl rfl (fun w => by kernel_rfl : ∀ w, (Instr.fieldAt 27 (.pointer (some ⟨g762, 0, none⟩)) 0).run Try.prog w = .ok (.pointer (some ⟨g762, 0, none⟩)) w)) ?_; clear hF; intro a hF
        refine ha_l 0 hF rfl rfl rfl (wn_none rfl) hSS (yl_loadK (rs := [_, _, _]) (fun _ h => h) hF rfl rfl 0 rfl ag43 sz43 rfl rfl) ?_; clear hF; intro a hF
        refine ha_l 2 hF rfl rfl rfl (wn_none rfl) hSS (yl_load (fun _ h => h) hF rfl rfl 1 rfl ag25 rfl) ?_; clear hF; intro a hF
        refine ha_one 3 (by kernel_rfl) rfl (wn_none rfl) (wp_store (cs' := #[_, _, _]) hF hS rfl rfl rfl rfl 3 rfl sz43 (by simp [Value.cells, Value.oneCell']) (by simp [Value.cells]) rfl ?_)
        clear hF hS; intro a w hF hS
        replace hSS := hS.sub [5, 2] (by decide) rfl (by simp)
        refine ⟨.inr hSS, ?_⟩
        refine ha_y 4 hF rfl rfl rfl (wn_none rfl) (.inr hSS) (yl_assign hF rfl rfl) ?_; clear hF; intro a hF
        refine ha_y 5 hF rfl rfl rfl (wn_none rfl) (.inr hSS) (yl_assign hF rfl rfl) ?_; clear hF; intro a hF
        refine ha_done (by kernel_rfl) ?_ _
        refine then_n ?_
        refine wp_ret ?_
        refine then_r ?_
        refine then_r ?_
        refine ret_ctt hF rfl (resC hS rfl 3 rfl ag43 sz43) rfl rfl ?_
        exact ⟨_, rfl, _, _, _, _, _, _, true, rfl, run_torn hfit (by omega) hk2 (torn_one hfit.1 hs9 hx9 (by assumption) (by omega) hxn rfl (by omega) hq793), .inl rfl, (hS.sub [0] (by decide) (by first | rfl | simp) (by simp))⟩
      ·first | (replace hc766 := of_decide_eq_false hc766) | (replace hc766 := of_decide_eq_true (bnot_f hc766)) | (replace hc766 := bnot_f hc766) | skip
       try (have hc766x := hc766; simp only [okS, okI, okW, okP] at hc766x)
       refine wp_skip ?_
       refine then_n ?_
       refine c_seq ?_
       refine c_seq ?_
       refine c_region ?_
       refine mvN hF rfl rfl rfl rfl rfl ?_; clear hF; intro a hF
       refine seq_yl hF (wn_none rfl) rfl rfl (yl_bin hF rfl rfl rfl rfl (fun _ => run_gtr)) ?_; clear hF; intro a hF
       refine wpList_nil ?_
       refine then_n ?_
       refine c_cond hF rfl (fun hc794 => ?_) (fun hc794 => ?_)
       ·first | (replace hc794 := of_decide_eq_true hc794) | (replace hc794 := of_decide_eq_false (bnot_t hc794)) | (replace hc794 := bnot_t hc794) | skip
        try (have hc794x := hc794; simp only [okS, okI, okW, okP] at hc794x)
        refine ha_startS hS [3, 2] 13 (by kernel_rfl) ?_; clear hS; intro w hS
        have hSS := hS.sub [3, 2] (by decide) rfl (by simp)
        refine ha_y 1 hF rfl rfl rfl (wn_none rfl) (.inr hSS) (yl_fieldAddr hF rfl rfl (fun w => by kernel_rfl : ∀ w, (Instr.fieldAt 45 (.pointer (some ⟨g752, 0, none⟩)) 2).run Try.prog w = .ok (.pointer (some ⟨g752, 2, none⟩)) w)) ?_; clear hF; intro a hF
        refine ha_y 3 hF rfl rfl rfl (wn_none rfl) (.inr hSS) (yl_fieldAddr hF rfl rfl (fun w => by kernel_rfl : ∀ w, (Instr.fieldAt 45 (.pointer (some ⟨g752, 0, none⟩)) 4).run Try.prog w = .ok (.pointer (some ⟨g752, 4, none⟩)) w)) ?_; clear hF; intro a hF
        refine ha_y 5 hF rfl rfl rfl (wn_none rfl) (.inr hSS) (yl_move hF rfl rfl) ?_; clear hF; intro a hF
        refine ha_y 7 hF rfl rfl rfl (wn_none rfl) (.inr hSS) (yl_fieldAddr hF rfl rfl (fun w => by kernel_rfl : ∀ w, (Instr.fieldAt 45 (.pointer (some ⟨g752, 0, none⟩)) 5).run Try.prog w = .ok (.pointer (some ⟨g752, 5, none⟩)) w)) ?_; clear hF; intro a hF
        refine ha_l 0 hF rfl rfl rfl (wn_none rfl) hSS (yl_loadK (rs := [_, _, _]) (fun _ h => h) hF rfl rfl 0 rfl ag43 sz43 rfl rfl) ?_; clear hF; intro a hF
        refine ha_l 2 hF rfl rfl rfl (wn_none rfl) hSS (yl_load (fun _ h => h) hF rfl rfl 1 rfl ag3 rfl) ?_; clear hF; intro a hF
        refine ha_l 4 hF rfl rfl rfl (wn_none rfl) hSS (yl_load (fun _ h => h) hF rfl rfl 1 rfl ag9 rfl) ?_; clear hF; intro a hF
        have hz795 := subs_size (s := x) (i := 0) (j := ((((doneF dn c)) * (8 : Int)))) (by omega) (by omega) (by omega)
        refine ha_y 6 hF rfl rfl rfl (wn_none rfl) (.inr hSS) (yl_subsH (s := x) (j := ((((doneF dn c)) * (8 : Int)))) hF rfl rfl rfl Try.underlying9 (by omega) (by omega)) ?_; clear hF; intro a hF
        refine ha_l 8 hF rfl rfl rfl (wn_none rfl) hSS (yl_load (fun _ h => h) hF rfl rfl 1 rfl ag4 rfl) ?_; clear hF; intro a hF
        refine ha_one 9 (by kernel_rfl) rfl (wn_none rfl) (wp_call (vs := [_, _, _, _]) hF rfl rfl rfl rfl cf48 (write2_any st _ L (rm) (s) (subs x 0 ((((doneF dn c)) * (8 : Int)))) fua _ (hS.rdRo 4 rfl) (by first | omega | (simp; done)) (by first | omega | (simp; done)) (by first | omega | (simp; done))) ?_)
        clear hF; rintro _ w ⟨st796, v797, Lq798, rm799, b800, rfl, hq801, hS1⟩ a hF
        replace hS := hS.callB hS1 rfl; clear hS1
        obtain ⟨Av797, cv797, rfl⟩ := hS.form 0 rfl
        have hq801b := writeF_bd hq801
        obtain ⟨rfl, -, -, hq801d, hq801s, rfl⟩ := (writeF_ok hq801).resolve_right (fun h9 => h9.2.1 (⟨hfit.1, by unfold okW okS okI; omega⟩))
        have hq801i := okD_I hq801d
        replace hSS := hS.sub [4, 3] (by decide) rfl (by simp)
        refine ⟨.inr hSS, ?_⟩
        refine ha_y 10 hF rfl rfl rfl (wn_none rfl) (.inr hSS) (yl_move hF rfl rfl) ?_; clear hF; intro a hF
        refine ha_y 11 hF rfl rfl rfl (wn_none rfl) (.inr hSS) (yl_extract hF rfl rfl rfl) ?_; clear hF; intro a hF
        refine ha_y 12 hF rfl rfl rfl (wn_none rfl) (.inr hSS) (yl_extract hF rfl rfl rfl) ?_; clear hF; intro a hF
        refine ha_one 13 (by kernel_rfl) rfl (wn_none rfl) (wp_store (cs' := #[_, _, _]) hF hS rfl rfl rfl rfl 4 rfl sz43 (by simp [Value.cells, Value.oneCell']) (by simp [Value.cells]) rfl ?_)
        clear hF hS; intro a w hF hS
        refine ⟨.inl (by kernel_rfl), ?_⟩
        refine ha_done (by kernel_rfl) ?_ _
        refine then_n ?_
        refine c_seq ?_
        refine ha_startS hS [4, 1] 6 (by kernel_rfl) ?_; clear hS; intro w hS
        have hSS := hS.sub [4, 1] (by decide) rfl (by simp)
        refine ha_y 1 hF rfl rfl rfl (wn_none rfl) (.inr hSS) (yl_fieldAddr hF rfl rfl (fun w => by kernel_rfl : ∀ w, (Instr.fieldAt 27 (.pointer (some ⟨g762, 0, none⟩)) 0).run Try.prog w = .ok (.pointer (some ⟨g762, 0, none⟩)) w)) ?_; clear hF; intro a hF
        refine ha_l 0 hF rfl rfl rfl (wn_none rfl) hSS (yl_loadK (rs := [_, _, _]) (fun _ h => h) hF rfl rfl 0 rfl ag43 sz43 rfl rfl) ?_; clear hF; intro a hF
        refine ha_l 2 hF rfl rfl rfl (wn_none rfl) hSS (yl_load (fun _ h => h) hF rfl rfl 1 rfl ag25 rfl) ?_; clear hF; intro a hF
        refine ha_one 3 (by kernel_rfl) rfl (wn_none rfl) (wp_store (cs' := #[_, _, _]) hF hS rfl rfl rfl rfl 2 rfl sz43 (by simp [Value.cells, Value.oneCell']) (by simp [Value.cells]) rfl ?_)
        clear hF hS; intro a w hF hS
        replace hSS := hS.sub [4, 1] (by decide) rfl (by simp)
        refine ⟨.inr hSS, ?_⟩
        refine ha_y 4 hF rfl rfl rfl (wn_none rfl) (.inr hSS) (yl_assign hF rfl rfl) ?_; clear hF; intro a hF
        refine ha_y 5 hF rfl rfl rfl (wn_none rfl) (.inr hSS) (yl_assign hF rfl rfl) ?_; clear hF; intro a hF
        refine ha_done (by kernel_rfl) ?_ _
        refine then_n ?_
        refine wp_ret ?_
        refine then_r ?_
        refine ret_ctt hF rfl (resC hS rfl 2 rfl ag43 sz43) rfl rfl ?_
        exact ⟨_, rfl, _, _, _, _, _, _, true, rfl, run_torn hfit (by omega) hk2 (torn_pre hfit.1 hs9 hx9 (fun h9 => by obtain ⟨h7, h8⟩ := h9; first | omega | simp_all) (by omega) hq801), .inl rfl, (hS.sub [0] (by decide) (by first | rfl | simp) (by simp))⟩
       ·first | (replace hc794 := of_decide_eq_false hc794) | (replace hc794 := of_decide_eq_true (bnot_f hc794)) | (replace hc794 := bnot_f hc794) | skip
        try (have hc794x := hc794; simp only [okS, okI, okW, okP] at hc794x)
        refine wp_skip ?_
        refine then_n ?_
        refine c_seq ?_
        refine ha_startS hS [3, 0] 6 (by kernel_rfl) ?_; clear hS; intro w hS
        have hSS := hS.sub [3, 0] (by decide) rfl (by simp)
        refine ha_y 1 hF rfl rfl rfl (wn_none rfl) (.inr hSS) (yl_fieldAddr hF rfl rfl (fun w => by kernel_rfl : ∀ w, (Instr.fieldAt 27 (.pointer (some ⟨g762, 0, none⟩)) 0).run Try.prog w = .ok (.pointer (some ⟨g762, 0, none⟩)) w)) ?_; clear hF; intro a hF
        refine ha_l 0 hF rfl rfl rfl (wn_none rfl) hSS (yl_loadK (rs := [_, _, _]) (fun _ h => h) hF rfl rfl 0 rfl ag43 sz43 rfl rfl) ?_; clear hF; intro a hF
        refine ha_l 2 hF rfl rfl rfl (wn_none rfl) hSS (yl_load (fun _ h => h) hF rfl rfl 1 rfl ag25 rfl) ?_; clear hF; intro a hF
        refine ha_one 3 (by kernel_rfl) rfl (wn_none rfl) (wp_store (cs' := #[_, _, _]) hF hS rfl rfl rfl rfl 1 rfl sz43 (by simp [Value.cells, Value.oneCell']) (by simp [Value.cells]) rfl ?_)
        clear hF hS; intro a w hF hS
        replace hSS := hS.sub [3, 0] (by decide) rfl (by simp)
        refine ⟨.inr hSS, ?_⟩
        refine ha_y 4 hF rfl rfl rfl (wn_none rfl) (.inr hSS) (yl_assign hF rfl rfl) ?_; clear hF; intro a hF
        refine ha_y 5 hF rfl rfl rfl (wn_none rfl) (.inr hSS) (yl_assign hF rfl rfl) ?_; clear hF; intro a hF
        refine ha_done (by kernel_rfl) ?_ _
        refine then_n ?_
        refine wp_ret ?_
        refine then_r ?_
        refine ret_ctt hF rfl (resC hS rfl 1 rfl ag43 sz43) rfl rfl ?_
        exact ⟨_, rfl, _, _, _, _, _, _, false, rfl, (by first | exact run_err hfit (by omega) (by omega) | exact run_torn hfit (by omega) (by omega) (torn_none (fun h9 => by obtain ⟨h7, h8⟩ := h9; first | omega | simp_all) (by omega))), .inr (.inl ⟨rfl, rfl⟩), (hS.sub [] (by decide) (by first | rfl | simp) (by simp))⟩
     ·first | (replace hc765 := of_decide_eq_false hc765) | (replace hc765 := of_decide_eq_true (bnot_f hc765)) | (replace hc765 := bnot_f hc765) | skip
      try (have hc765x := hc765; simp only [okS, okI, okW, okP] at hc765x)
      refine skF hF rfl rfl rfl rfl rfl rfl ?_; clear hF; intro a hF
      refine skF hF rfl rfl rfl rfl rfl rfl ?_; clear hF; intro a hF
      refine skF hF rfl rfl rfl rfl rfl rfl ?_; clear hF; intro a hF
      refine skF hF rfl rfl rfl rfl rfl rfl ?_; clear hF; intro a hF
      refine seq_yl hF (wn_none rfl) rfl rfl (pkF hF rfl rfl rfl) ?_; clear hF; intro a hF
      refine wpList_nil ?_
      refine then_n ?_
      refine c_cond_f hF rfl ?_
      refine wp_skip ?_
      refine then_n ?_
      refine c_seq ?_
      refine c_seq ?_
      refine c_region ?_
      refine mvN hF rfl rfl rfl rfl rfl ?_; clear hF; intro a hF
      refine seq_yl hF (wn_none rfl) rfl rfl (yl_bin hF rfl rfl rfl rfl (fun _ => run_gtr)) ?_; clear hF; intro a hF
      refine wpList_nil ?_
      refine then_n ?_
      refine c_cond hF rfl (fun hc802 => ?_) (fun hc802 => ?_)
      ·first | (replace hc802 := of_decide_eq_true hc802) | (replace hc802 := of_decide_eq_false (bnot_t hc802)) | (replace hc802 := bnot_t hc802) | skip
       try (have hc802x := hc802; simp only [okS, okI, okW, okP] at hc802x)
       refine ha_startS hS [3, 2] 13 (by kernel_rfl) ?_; clear hS; intro w hS
       have hSS := hS.sub [3, 2] (by decide) rfl (by simp)
       refine ha_y 1 hF rfl rfl rfl (wn_none rfl) (.inr hSS) (yl_fieldAddr hF rfl rfl (fun w => by kernel_rfl : ∀ w, (Instr.fieldAt 45 (.pointer (some ⟨g752, 0, none⟩)) 2).run Try.prog w = .ok (.pointer (some ⟨g752, 2, none⟩)) w)) ?_; clear hF; intro a hF
       refine ha_y 3 hF rfl rfl rfl (wn_none rfl) (.inr hSS) (yl_fieldAddr hF rfl rfl (fun w => by kernel_rfl : ∀ w, (Instr.fieldAt 45 (.pointer (some ⟨g752, 0, none⟩)) 4).run Try.prog w = .ok (.pointer (some ⟨g752, 4, none⟩)) w)) ?_; clear hF; intro a hF
       refine ha_y 5 hF rfl rfl rfl (wn_none rfl) (.inr hSS) (yl_move hF rfl rfl) ?_; clear hF; intro a hF
       refine ha_y 7 hF rfl rfl rfl (wn_none rfl) (.inr hSS) (yl_fieldAddr hF rfl rfl (fun w => by kernel_rfl : ∀ w, (Instr.fieldAt 45 (.pointer (some ⟨g752, 0, none⟩)) 5).run Try.prog w = .ok (.pointer (some ⟨g752, 5, none⟩)) w)) ?_; clear hF; intro a hF
       refine ha_l 0 hF rfl rfl rfl (wn_none rfl) hSS (yl_loadK (rs := [_, _, _]) (fun _ h => h) hF rfl rfl 0 rfl ag43 sz43 rfl rfl) ?_; clear hF; intro a hF
       refine ha_l 2 hF rfl rfl rfl (wn_none rfl) hSS (yl_load (fun _ h => h) hF rfl rfl 1 rfl ag3 rfl) ?_; clear hF; intro a hF
       refine ha_l 4 hF rfl rfl rfl (wn_none rfl) hSS (yl_load (fun _ h => h) hF rfl rfl 1 rfl ag9 rfl) ?_; clear hF; intro a hF
       have hz803 := subs_size (s := x) (i := 0) (j := ((((doneF dn c)) * (8 : Int)))) (by omega) (by omega) (by omega)
       refine ha_y 6 hF rfl rfl rfl (wn_none rfl) (.inr hSS) (yl_subsH (s := x) (j := ((((doneF dn c)) * (8 : Int)))) hF rfl rfl rfl Try.underlying9 (by omega) (by omega)) ?_; clear hF; intro a hF
       refine ha_l 8 hF rfl rfl rfl (wn_none rfl) hSS (yl_load (fun _ h => h) hF rfl rfl 1 rfl ag4 rfl) ?_; clear hF; intro a hF
       refine ha_one 9 (by kernel_rfl) rfl (wn_none rfl) (wp_call (vs := [_, _, _, _]) hF rfl rfl rfl rfl cf48 (write2_any st _ L (rm) (s) (subs x 0 ((((doneF dn c)) * (8 : Int)))) fua _ (hS.rdRo 4 rfl) (by first | omega | (simp; done)) (by first | omega | (simp; done)) (by first | omega | (simp; done))) ?_)
       clear hF; rintro _ w ⟨st804, v805, Lq806, rm807, b808, rfl, hq809, hS1⟩ a hF
       replace hS := hS.callB hS1 rfl; clear hS1
       obtain ⟨Av805, cv805, rfl⟩ := hS.form 0 rfl
       have hq809b := writeF_bd hq809
       obtain ⟨rfl, -, -, hq809d, hq809s, rfl⟩ := (writeF_ok hq809).resolve_right (fun h9 => h9.2.1 (⟨hfit.1, by unfold okW okS okI; omega⟩))
       have hq809i := okD_I hq809d
       replace hSS := hS.sub [4, 3] (by decide) rfl (by simp)
       refine ⟨.inr hSS, ?_⟩
       refine ha_y 10 hF rfl rfl rfl (wn_none rfl) (.inr hSS) (yl_move hF rfl rfl) ?_; clear hF; intro a hF
       refine ha_y 11 hF rfl rfl rfl (wn_none rfl) (.inr hSS) (yl_extract hF rfl rfl rfl) ?_; clear hF; intro a hF
       refine ha_y 12 hF rfl rfl rfl (wn_none rfl) (.inr hSS) (yl_extract hF rfl rfl rfl) ?_; clear hF; intro a hF
       refine ha_one 13 (by kernel_rfl) rfl (wn_none rfl) (wp_store (cs' := #[_, _, _]) hF hS rfl rfl rfl rfl 4 rfl sz43 (by simp [Value.cells, Value.oneCell']) (by simp [Value.cells]) rfl ?_)
       clear hF hS; intro a w hF hS
       refine ⟨.inl (by kernel_rfl), ?_⟩
       refine ha_done (by kernel_rfl) ?_ _
       refine then_n ?_
       refine c_seq ?_
       refine ha_startS hS [4, 1] 6 (by kernel_rfl) ?_; clear hS; intro w hS
       have hSS := hS.sub [4, 1] (by decide) rfl (by simp)
       refine ha_y 1 hF rfl rfl rfl (wn_none rfl) (.inr hSS) (yl_fieldAddr hF rfl rfl (fun w => by kernel_rfl : ∀ w, (Instr.fieldAt 27 (.pointer (some ⟨g762, 0, none⟩)) 0).run Try.prog w = .ok (.pointer (some ⟨g762, 0, none⟩)) w)) ?_; clear hF; intro a hF
       refine ha_l 0 hF rfl rfl rfl (wn_none rfl) hSS (yl_loadK (rs := [_, _, _]) (fun _ h => h) hF rfl rfl 0 rfl ag43 sz43 rfl rfl) ?_; clear hF; intro a hF
       refine ha_l 2 hF rfl rfl rfl (wn_none rfl) hSS (yl_load (fun _ h => h) hF rfl rfl 1 rfl ag25 rfl) ?_; clear hF; intro a hF
       refine ha_one 3 (by kernel_rfl) rfl (wn_none rfl) (wp_store (cs' := #[_, _, _]) hF hS rfl rfl rfl rfl 2 rfl sz43 (by simp [Value.cells, Value.oneCell']) (by simp [Value.cells]) rfl ?_)
       clear hF hS; intro a w hF hS
       replace hSS := hS.sub [4, 1] (by decide) rfl (by simp)
       refine ⟨.inr hSS, ?_⟩
       refine ha_y 4 hF rfl rfl rfl (wn_none rfl) (.inr hSS) (yl_assign hF rfl rfl) ?_; clear hF; intro a hF
       refine ha_y 5 hF rfl rfl rfl (wn_none rfl) (.inr hSS) (yl_assign hF rfl rfl) ?_; clear hF; intro a hF
       refine ha_done (by kernel_rfl) ?_ _
       refine then_n ?_
       refine wp_ret ?_
       refine then_r ?_
       refine ret_ctt hF rfl (resC hS rfl 2 rfl ag43 sz43) rfl rfl ?_
       exact ⟨_, rfl, _, _, _, _, _, _, true, rfl, run_torn hfit (by omega) hk2 (torn_pre hfit.1 hs9 hx9 (fun h9 => by obtain ⟨h7, h8⟩ := h9; first | omega | simp_all) (by omega) hq809), .inl rfl, (hS.sub [0] (by decide) (by first | rfl | simp) (by simp))⟩
      ·first | (replace hc802 := of_decide_eq_false hc802) | (replace hc802 := of_decide_eq_true (bnot_f hc802)) | (replace hc802 := bnot_f hc802) | skip
       try (have hc802x := hc802; simp only [okS, okI, okW, okP] at hc802x)
       refine wp_skip ?_
       refine then_n ?_
       refine c_seq ?_
       refine ha_startS hS [3, 0] 6 (by kernel_rfl) ?_; clear hS; intro w hS
       have hSS := hS.sub [3, 0] (by decide) rfl (by simp)
       refine ha_y 1 hF rfl rfl rfl (wn_none rfl) (.inr hSS) (yl_fieldAddr hF rfl rfl (fun w => by kernel_rfl : ∀ w, (Instr.fieldAt 27 (.pointer (some ⟨g762, 0, none⟩)) 0).run Try.prog w = .ok (.pointer (some ⟨g762, 0, none⟩)) w)) ?_; clear hF; intro a hF
       refine ha_l 0 hF rfl rfl rfl (wn_none rfl) hSS (yl_loadK (rs := [_, _, _]) (fun _ h => h) hF rfl rfl 0 rfl ag43 sz43 rfl rfl) ?_; clear hF; intro a hF
       refine ha_l 2 hF rfl rfl rfl (wn_none rfl) hSS (yl_load (fun _ h => h) hF rfl rfl 1 rfl ag25 rfl) ?_; clear hF; intro a hF
       refine ha_one 3 (by kernel_rfl) rfl (wn_none rfl) (wp_store (cs' := #[_, _, _]) hF hS rfl rfl rfl rfl 1 rfl sz43 (by simp [Value.cells, Value.oneCell']) (by simp [Value.cells]) rfl ?_)
       clear hF hS; intro a w hF hS
       replace hSS := hS.sub [3, 0] (by decide) rfl (by simp)
       refine ⟨.inr hSS, ?_⟩
       refine ha_y 4 hF rfl rfl rfl (wn_none rfl) (.inr hSS) (yl_assign hF rfl rfl) ?_; clear hF; intro a hF
       refine ha_y 5 hF rfl rfl rfl (wn_none rfl) (.inr hSS) (yl_assign hF rfl rfl) ?_; clear hF; intro a hF
       refine ha_done (by kernel_rfl) ?_ _
       refine then_n ?_
       refine wp_ret ?_
       refine then_r ?_
       refine ret_ctt hF rfl (resC hS rfl 1 rfl ag43 sz43) rfl rfl ?_
       exact ⟨_, rfl, _, _, _, _, _, _, false, rfl, (by first | exact run_err hfit (by omega) (by omega) | exact run_torn hfit (by omega) (by omega) (torn_none (fun h9 => by obtain ⟨h7, h8⟩ := h9; first | omega | simp_all) (by omega))), .inr (.inl ⟨rfl, rfl⟩), (hS.sub [] (by decide) (by first | rfl | simp) (by simp))⟩
   ·first | (replace hc763 := of_decide_eq_false hc763) | (replace hc763 := of_decide_eq_true (bnot_f hc763)) | (replace hc763 := bnot_f hc763) | skip
    try (have hc763x := hc763; simp only [okS, okI, okW, okP] at hc763x)
    refine wp_skip ?_
    refine then_n ?_
    refine c_seq ?_
    refine c_seq ?_
    refine c_region ?_
    refine seq_yl hF (wn_none rfl) rfl rfl (yl_fieldAddr hF rfl rfl (fun w => by kernel_rfl : ∀ w, (Instr.fieldAt 45 (.pointer (some ⟨g752, 0, none⟩)) 1).run Try.prog w = .ok (.pointer (some ⟨g752, 1, none⟩)) w)) ?_; clear hF; intro a hF
    refine seq_yl hF (wn_none rfl) rfl rfl (yl_load (fun _ h => h ▸ hS) hF rfl rfl 2 rfl ag3 rfl) ?_; clear hF; intro a hF
    refine wpList_nil ?_
    refine then_n ?_
    refine wp_block ?_
    refine c_seq ?_
    refine c_region ?_
    refine seq_yl hF (wn_none rfl) rfl rfl (yl_bin hF rfl rfl rfl rfl (fun _ => run_eql)) ?_; clear hF; intro a hF
    refine asN hF rfl rfl rfl rfl rfl ?_; clear hF; intro a hF
    refine wpList_nil ?_
    refine then_n ?_
    refine c_cond hF rfl (fun hc810 => ?_) (fun hc810 => ?_)
    ·first | (replace hc810 := of_decide_eq_true hc810) | (replace hc810 := of_decide_eq_false (bnot_t hc810)) | (replace hc810 := bnot_t hc810) | skip
     try (have hc810x := hc810; simp only [okS, okI, okW, okP] at hc810x)
     refine c_seq ?_
     refine c_region ?_
     refine seq_yl hF (wn_none rfl) rfl rfl (yl_loadK (rs := [_, _, _]) (fun _ h => h ▸ hS) hF rfl rfl 3 rfl ag43 sz43 rfl rfl) ?_; clear hF; intro a hF
     refine seq_yl hF (wn_none rfl) rfl rfl (yl_fieldAddr hF rfl rfl (fun w => by kernel_rfl : ∀ w, (Instr.fieldAt 45 (.pointer (some ⟨g752, 0, none⟩)) 2).run Try.prog w = .ok (.pointer (some ⟨g752, 2, none⟩)) w)) ?_; clear hF; intro a hF
     refine seq_yl hF (wn_none rfl) rfl rfl (yl_load (fun _ h => h ▸ hS) hF rfl rfl 2 rfl ag3 rfl) ?_; clear hF; intro a hF
     refine seq_yl hF (wn_none rfl) rfl rfl (yl_fieldAddr hF rfl rfl (fun w => by kernel_rfl : ∀ w, (Instr.fieldAt 45 (.pointer (some ⟨g752, 0, none⟩)) 3).run Try.prog w = .ok (.pointer (some ⟨g752, 3, none⟩)) w)) ?_; clear hF; intro a hF
     refine seq_yl hF (wn_none rfl) rfl rfl (yl_load (fun _ h => h ▸ hS) hF rfl rfl 2 rfl ag3 rfl) ?_; clear hF; intro a hF
     refine seq_wp (wn_none rfl) (wp_call (vs := [_, _, _]) hF rfl rfl rfl rfl cf31 (read2_any st _ L (rm) (s) (c) _ (hS.rdRo 4 rfl) (by first | omega | (simp; done)) (by first | omega | (simp; done))) ?_)
     clear hF; rintro _ w ⟨rfl, hS1⟩ a hF
     replace hS := hS.callB hS1 rfl; clear hS1
     have hz811 := readF_bd st L (rm) (s) (c)
     refine mvN hF rfl rfl rfl rfl rfl ?_; clear hF; intro a hF
     refine seq_yl hF (wn_none rfl) rfl rfl (yl_extract hF rfl rfl rfl) ?_; clear hF; intro a hF
     refine seq_yl hF (wn_none rfl) rfl rfl (yl_extract hF rfl rfl rfl) ?_; clear hF; intro a hF
     refine asN hF rfl rfl rfl rfl rfl ?_; clear hF; intro a hF
     refine asN hF rfl rfl rfl rfl rfl ?_; clear hF; intro a hF
     refine wpList_nil ?_
     refine then_n ?_
     refine c_seq ?_
     refine c_region ?_
     refine seq_yl hF (wn_none rfl) rfl rfl (yl_loadK (rs := [_, _, _]) (fun _ h => h ▸ hS) hF rfl rfl 3 rfl ag43 sz43 rfl rfl) ?_; clear hF; intro a hF
     refine mvN hF rfl rfl rfl rfl rfl ?_; clear hF; intro a hF
     refine seq_wp (wn_none rfl) (wp_store (cs' := #[_, _, _]) hF hS rfl rfl rfl rfl 1 rfl sz43 (by simp [Value.cells, Value.oneCell']) (by simp [Value.cells]) rfl ?_)
     clear hF hS; intro a w hF hS
     refine asN hF rfl rfl rfl rfl rfl ?_; clear hF; intro a hF
     refine asN hF rfl rfl rfl rfl rfl ?_; clear hF; intro a hF
     refine wpList_nil ?_
     refine then_n ?_
     refine wp_ret ?_
     refine inb_r ?_
     refine then_r ?_
     refine ret_ctt hF rfl (resC hS rfl 1 rfl ag43 sz43) rfl rfl ?_
     exact ⟨_, rfl, _, _, _, _, _, _, false, rfl, run_read hfit (by omega) (by omega), .inr (.inl ⟨rfl, rfl⟩), (hS.sub [] (by decide) (by first | rfl | simp) (by simp))⟩
    ·first | (replace hc810 := of_decide_eq_false hc810) | (replace hc810 := of_decide_eq_true (bnot_f hc810)) | (replace hc810 := bnot_f hc810) | skip
     try (have hc810x := hc810; simp only [okS, okI, okW, okP] at hc810x)
     refine c_seq ?_
     refine c_region ?_
     refine seq_yl hF (wn_none rfl) rfl rfl (yl_bin hF rfl rfl rfl rfl (fun _ => run_eql)) ?_; clear hF; intro a hF
     refine asN hF rfl rfl rfl rfl rfl ?_; clear hF; intro a hF
     refine wpList_nil ?_
     refine then_n ?_
     refine c_cond hF rfl (fun hc812 => ?_) (fun hc812 => ?_)
     ·first | (replace hc812 := of_decide_eq_true hc812) | (replace hc812 := of_decide_eq_false (bnot_t hc812)) | (replace hc812 := bnot_t hc812) | skip
      try (have hc812x := hc812; simp only [okS, okI, okW, okP] at hc812x)
      refine c_seq ?_
      refine c_region ?_
      refine seq_yl hF (wn_none rfl) rfl rfl (yl_loadK (rs := [_, _, _]) (fun _ h => h ▸ hS) hF rfl rfl 3 rfl ag43 sz43 rfl rfl) ?_; clear hF; intro a hF
      refine seq_yl hF (wn_none rfl) rfl rfl (yl_fieldAddr hF rfl rfl (fun w => by kernel_rfl : ∀ w, (Instr.fieldAt 45 (.pointer (some ⟨g752, 0, none⟩)) 2).run Try.prog w = .ok (.pointer (some ⟨g752, 2, none⟩)) w)) ?_; clear hF; intro a hF
      refine seq_yl hF (wn_none rfl) rfl rfl (yl_load (fun _ h => h ▸ hS) hF rfl rfl 2 rfl ag3 rfl) ?_; clear hF; intro a hF
      refine seq_yl hF (wn_none rfl) rfl rfl (yl_fieldAddr hF rfl rfl (fun w => by kernel_rfl : ∀ w, (Instr.fieldAt 45 (.pointer (some ⟨g752, 0, none⟩)) 4).run Try.prog w = .ok (.pointer (some ⟨g752, 4, none⟩)) w)) ?_; clear hF; intro a hF
      refine seq_yl hF (wn_none rfl) rfl rfl (yl_load (fun _ h => h ▸ hS) hF rfl rfl 2 rfl ag9 rfl) ?_; clear hF; intro a hF
      refine seq_yl hF (wn_none rfl) rfl rfl (yl_fieldAddr hF rfl rfl (fun w => by kernel_rfl : ∀ w, (Instr.fieldAt 45 (.pointer (some ⟨g752, 0, none⟩)) 5).run Try.prog w = .ok (.pointer (some ⟨g752, 5, none⟩)) w)) ?_; clear hF; intro a hF
      refine seq_yl hF (wn_none rfl) rfl rfl (yl_load (fun _ h => h ▸ hS) hF rfl rfl 2 rfl ag4 rfl) ?_; clear hF; intro a hF
      refine seq_wp (wn_none rfl) (wp_call (vs := [_, _, _, _]) hF rfl rfl rfl rfl cf48 (write2_any st _ L (rm) (s) x fua _ (hS.rdRo 4 rfl) (by first | omega | (simp; done)) (by first | omega | (simp; done)) (by first | omega | (simp; done))) ?_)
      clear hF; rintro _ w ⟨st813, v814, Lq815, rm816, b817, rfl, hq818, hS1⟩ a hF
      replace hS := hS.callB hS1 rfl; clear hS1
      obtain ⟨Av814, cv814, rfl⟩ := hS.form 0 rfl
      have hq818b := writeF_bd hq818
      refine mvN hF rfl rfl rfl rfl rfl ?_; clear hF; intro a hF
      refine seq_yl hF (wn_none rfl) rfl rfl (yl_extract hF rfl rfl rfl) ?_; clear hF; intro a hF
      refine seq_yl hF (wn_none rfl) rfl rfl (yl_extract hF rfl rfl rfl) ?_; clear hF; intro a hF
      refine seq_wp (wn_none rfl) (wp_store (cs' := #[_, _, _]) hF hS rfl rfl rfl rfl 4 rfl sz43 (by simp [Value.cells, Value.oneCell']) (by simp [Value.cells]) rfl ?_)
      clear hF hS; intro a w hF hS
      refine wpList_nil ?_
      refine then_n ?_
      refine c_seq ?_
      refine c_region ?_
      refine seq_yl hF (wn_none rfl) rfl rfl (yl_loadK (rs := [_, _, _]) (fun _ h => h ▸ hS) hF rfl rfl 4 rfl ag43 sz43 rfl rfl) ?_; clear hF; intro a hF
      refine seq_wp (wn_none rfl) (wp_store (cs' := #[_, _, _]) hF hS rfl rfl rfl rfl 2 rfl sz43 (by simp [Value.cells, Value.oneCell']) (by simp [Value.cells]) rfl ?_)
      clear hF hS; intro a w hF hS
      refine asN hF rfl rfl rfl rfl rfl ?_; clear hF; intro a hF
      refine asN hF rfl rfl rfl rfl rfl ?_; clear hF; intro a hF
      refine wpList_nil ?_
      refine then_n ?_
      refine wp_ret ?_
      refine inb_r ?_
      refine then_r ?_
      refine ret_ctt hF rfl (resC hS rfl 2 rfl ag43 sz43) rfl rfl ?_
      exact ⟨_, rfl, _, _, _, _, _, _, true, rfl, run_write hfit (by omega) (by omega) hq818, .inl rfl, (hS.sub [0] (by decide) (by first | rfl | simp) (by simp))⟩
     ·first | (replace hc812 := of_decide_eq_false hc812) | (replace hc812 := of_decide_eq_true (bnot_f hc812)) | (replace hc812 := bnot_f hc812) | skip
      try (have hc812x := hc812; simp only [okS, okI, okW, okP] at hc812x)
      refine wp_skip ?_
      refine inb_n ?_
      refine then_n ?_
      refine c_seq ?_
      refine c_region ?_
      refine seq_yl hF (wn_none rfl) rfl rfl (yl_loadK (rs := [_, _, _]) (fun _ h => h ▸ hS) hF rfl rfl 3 rfl ag43 sz43 rfl rfl) ?_; clear hF; intro a hF
      refine seq_wp (wn_none rfl) (wp_call (vs := [_]) hF rfl rfl rfl rfl cf49 (flush2_any st _ L (rm) _ (hS.rdRo 4 rfl) (by first | omega | (simp; done)) (by first | omega | (simp; done))) ?_)
      clear hF; rintro _ w ⟨st819, rm820, v821, rfl, hq822, hE823, hS1⟩ a hF
      replace hS := hS.callB hS1 rfl; clear hS1
      have hq822b := flushF_bd hq822; replace hS := hS.addRo (hE823.rd enc67 2 _); obtain ⟨Av821, cv821, rfl⟩ := (hE823.rd enc67 2 w).form
      refine seq_wp (wn_none rfl) (wp_store (cs' := #[_, _, _]) hF hS rfl rfl rfl rfl 2 rfl sz43 (by simp [Value.cells, Value.oneCell']) (by simp [Value.cells]) rfl ?_)
      clear hF hS; intro a w hF hS
      refine asN hF rfl rfl rfl rfl rfl ?_; clear hF; intro a hF
      refine asN hF rfl rfl rfl rfl rfl ?_; clear hF; intro a hF
      refine wpList_nil ?_
      refine then_n ?_
      refine wp_ret ?_
      refine ret_ctt hF rfl (resC hS rfl 2 rfl ag43 sz43) rfl rfl ?_
      exact ⟨_, rfl, _, _, _, _, _, _, false, rfl, run_flush hfit (by omega) (by omega) (by omega) hq822, .inr (.inr (hE823.rd enc67 2)), (hS.sub [] (by decide) (by first | rfl | simp) (by simp))⟩
 ·first | (replace hc754 := of_decide_eq_false hc754) | (replace hc754 := of_decide_eq_true (bnot_f hc754)) | (replace hc754 := bnot_f hc754) | skip
  try (have hc754x := hc754; simp only [okS, okI, okW, okP] at hc754x)
  refine wp_skip ?_
  refine then_n ?_
  refine c_seq ?_
  refine c_seq ?_
  refine c_cut (fun a w => ∃ (bad : Bool) , (bad = !decide (fitsP st L rm k s c x)) ∧ Fr 183 a [(2, .pointer (some ⟨g751, 0, none⟩)), (3, .pointer (some ⟨g752, 0, none⟩)), (4, .pointer (some ⟨g753, 0, none⟩)), (5, .string (ByteArray.mk #[])), (6, .int .i64 (0 : Int)), (56, .bool bad)] ∧ Sat w0 w (.box g753 43 #[.string (⟨#[]⟩ : ByteArray), .slice none 0 0, .int .i64 (0 : Int)] :: .box g752 45 #[.int .i64 (i0), .int .i64 (k), .int .i64 (s), .int .i64 (c), .string x, .bool fua, .int .i64 (bg), .int .i64 (en), .int .i64 (er), .int .i64 (dn), .bool hf, .int .i64 (dl)] :: .box g751 43 #[.string st, .slice Alv (L).length clv, .int .i64 (rm)] :: .ro 2 (.slice Alv (L).length clv) (L).length (cells enc67 (L)) :: [])) ?_ ?_
  ·skip
   refine ha_startS hS [2, 1] 36 (by kernel_rfl) ?_; clear hS; intro w hS
   have hSS := hS.sub [2, 1] (by decide) rfl (by simp)
   refine ha_l 0 hF rfl rfl rfl (wn_none rfl) hSS (yl_loadK (rs := [_, _, _]) (fun _ h => h) hF rfl rfl 0 rfl ag43 sz43 rfl rfl) ?_; clear hF; intro a hF
   refine ha_one 1 (by kernel_rfl) rfl (wn_none rfl) (wp_call (vs := [_]) hF rfl rfl rfl rfl cf44 (dValid2_any st _ L (rm) _ (hS.rdRo 3 rfl) (by first | omega | (simp; done)) (by first | omega | (simp; done))) ?_)
   clear hF; rintro _ w ⟨rfl, hS1⟩ a hF
   replace hS := hS.callB hS1 rfl; clear hS1
   replace hSS := hS.sub [2, 1] (by decide) rfl (by simp)
   refine ⟨.inr hSS, ?_⟩
   refine ha_y 2 hF rfl rfl rfl (wn_none rfl) (.inr hSS) (yl_un hF rfl rfl (fun _ => run_not)) ?_; clear hF; intro a hF
   refine ha_y 3 hF rfl rfl rfl (wn_none rfl) (.inr hSS) (yl_move hF rfl rfl) ?_; clear hF; intro a hF
   refine fr_split hF (fun hc825 hF => ?_) (fun hc825 hF => ?_)
   ·first | (replace hc825 := of_decide_eq_true hc825) | (replace hc825 := of_decide_eq_false (bnot_t hc825)) | (replace hc825 := bnot_t hc825) | skip
    try (have hc825x := hc825; simp only [okS, okI, okW, okP] at hc825x)
    refine ha_s 4 hF rfl rfl rfl (wn_f hF rfl rfl rfl rfl) (.inr hSS) ?_; clear hF; intro a hF
    refine ha_s 5 hF rfl rfl rfl (wn_f hF rfl rfl rfl rfl) (.inr hSS) ?_; clear hF; intro a hF
    refine ha_s 6 hF rfl rfl rfl (wn_f hF rfl rfl rfl rfl) (.inr hSS) ?_; clear hF; intro a hF
    refine ha_s 7 hF rfl rfl rfl (wn_f hF rfl rfl rfl rfl) (.inr hSS) ?_; clear hF; intro a hF
    refine ha_y 8 hF rfl rfl rfl (wn_none rfl) (.inr hSS) (pkT hF rfl rfl rfl) ?_; clear hF; intro a hF
    refine ha_y 9 hF rfl rfl rfl (wn_none rfl) (.inr hSS) (yl_move hF rfl rfl) ?_; clear hF; intro a hF
    refine ha_s 10 hF rfl rfl rfl (wn_f hF rfl rfl rfl rfl) (.inr hSS) ?_; clear hF; intro a hF
    refine ha_s 11 hF rfl rfl rfl (wn_f hF rfl rfl rfl rfl) (.inr hSS) ?_; clear hF; intro a hF
    refine ha_s 12 hF rfl rfl rfl (wn_f hF rfl rfl rfl rfl) (.inr hSS) ?_; clear hF; intro a hF
    refine ha_s 13 hF rfl rfl rfl (wn_f hF rfl rfl rfl rfl) (.inr hSS) ?_; clear hF; intro a hF
    refine ha_s 14 hF rfl rfl rfl (wn_u hF rfl rfl rfl rfl) (.inr hSS) ?_; clear hF; intro a hF
    refine ha_s 15 hF rfl rfl rfl (wn_u hF rfl rfl rfl rfl) (.inr hSS) ?_; clear hF; intro a hF
    refine ha_s 16 hF rfl rfl rfl (wn_u hF rfl rfl rfl rfl) (.inr hSS) ?_; clear hF; intro a hF
    refine ha_s 17 hF rfl rfl rfl (wn_u hF rfl rfl rfl rfl) (.inr hSS) ?_; clear hF; intro a hF
    refine ha_s 18 hF rfl rfl rfl (wn_u hF rfl rfl rfl rfl) (.inr hSS) ?_; clear hF; intro a hF
    refine ha_s 19 hF rfl rfl rfl (wn_u hF rfl rfl rfl rfl) (.inr hSS) ?_; clear hF; intro a hF
    refine ha_s 20 hF rfl rfl rfl (wn_u hF rfl rfl rfl rfl) (.inr hSS) ?_; clear hF; intro a hF
    refine ha_s 21 hF rfl rfl rfl (wn_u hF rfl rfl rfl rfl) (.inr hSS) ?_; clear hF; intro a hF
    refine ha_s 22 hF rfl rfl rfl (wn_u hF rfl rfl rfl rfl) (.inr hSS) ?_; clear hF; intro a hF
    refine ha_s 23 hF rfl rfl rfl (wn_u hF rfl rfl rfl rfl) (.inr hSS) ?_; clear hF; intro a hF
    refine ha_s 24 hF rfl rfl rfl (wn_u hF rfl rfl rfl rfl) (.inr hSS) ?_; clear hF; intro a hF
    refine ha_s 25 hF rfl rfl rfl (wn_u hF rfl rfl rfl rfl) (.inr hSS) ?_; clear hF; intro a hF
    refine ha_s 26 hF rfl rfl rfl (wn_u hF rfl rfl rfl rfl) (.inr hSS) ?_; clear hF; intro a hF
    refine ha_s 27 hF rfl rfl rfl (wn_f hF rfl rfl rfl rfl) (.inr hSS) ?_; clear hF; intro a hF
    refine ha_y 28 hF rfl rfl rfl (wn_none rfl) (.inr hSS) (pkT hF rfl rfl rfl) ?_; clear hF; intro a hF
    refine ha_y 29 hF rfl rfl rfl (wn_none rfl) (.inr hSS) (yl_move hF rfl rfl) ?_; clear hF; intro a hF
    refine ha_s 30 hF rfl rfl rfl (wn_f hF rfl rfl rfl rfl) (.inr hSS) ?_; clear hF; intro a hF
    refine ha_s 31 hF rfl rfl rfl (wn_f hF rfl rfl rfl rfl) (.inr hSS) ?_; clear hF; intro a hF
    refine ha_s 32 hF rfl rfl rfl (wn_f hF rfl rfl rfl rfl) (.inr hSS) ?_; clear hF; intro a hF
    refine ha_s 33 hF rfl rfl rfl (wn_f hF rfl rfl rfl rfl) (.inr hSS) ?_; clear hF; intro a hF
    refine ha_s 34 hF rfl rfl rfl (wn_f hF rfl rfl rfl rfl) (.inr hSS) ?_; clear hF; intro a hF
    refine ha_y 35 hF rfl rfl rfl (wn_none rfl) (.inr hSS) (pkT hF rfl rfl rfl) ?_; clear hF; intro a hF
    refine ha_done (by kernel_rfl) ?_ _
    refine cut_n ?_
    exact ⟨_, ndec_t (fun h9 => by obtain ⟨h7, h8⟩ := h9; simp only [okS, okI] at h8; first | exact absurd h7 (by assumption) | omega), hF.to [2, 3, 4, 5, 6, 56] rfl, (hS.sub [0, 1, 2, 3] (by decide) (by first | rfl | simp) (by simp))⟩
   ·first | (replace hc825 := of_decide_eq_false hc825) | (replace hc825 := of_decide_eq_true (bnot_f hc825)) | (replace hc825 := bnot_f hc825) | skip
    try (have hc825x := hc825; simp only [okS, okI, okW, okP] at hc825x)
    refine ha_y 4 hF rfl rfl rfl (wn_t hF rfl rfl rfl rfl) (.inr hSS) (yl_fieldAddr hF rfl rfl (fun w => by kernel_rfl : ∀ w, (Instr.fieldAt 45 (.pointer (some ⟨g752, 0, none⟩)) 1).run Try.prog w = .ok (.pointer (some ⟨g752, 1, none⟩)) w)) ?_; clear hF; intro a hF
    refine ha_l 5 hF rfl rfl rfl (wn_t hF rfl rfl rfl rfl) hSS (yl_load (fun _ h => h) hF rfl rfl 1 rfl ag3 rfl) ?_; clear hF; intro a hF
    refine ha_one 6 (by kernel_rfl) rfl (wn_t hF rfl rfl rfl rfl) (wp_call (vs := [_]) hF rfl rfl rfl rfl cf45 (kind2_any (k) _) ?_)
    clear hF; rintro _ w ⟨rfl, hS1⟩ a hF
    replace hS := hS.callB hS1 rfl; clear hS1
    replace hSS := hS.sub [2, 1] (by decide) rfl (by simp)
    refine ⟨.inr hSS, ?_⟩
    refine ha_y 7 hF rfl rfl rfl (wn_t hF rfl rfl rfl rfl) (.inr hSS) (yl_un hF rfl rfl (fun _ => run_not)) ?_; clear hF; intro a hF
    refine ha_y 8 hF rfl rfl rfl (wn_none rfl) (.inr hSS) (pkF hF rfl rfl rfl) ?_; clear hF; intro a hF
    refine ha_y 9 hF rfl rfl rfl (wn_none rfl) (.inr hSS) (yl_move hF rfl rfl) ?_; clear hF; intro a hF
    refine fr_split hF (fun hc826 hF => ?_) (fun hc826 hF => ?_)
    ·first | (replace hc826 := of_decide_eq_true hc826) | (replace hc826 := of_decide_eq_false (bnot_t hc826)) | (replace hc826 := bnot_t hc826) | skip
     try (have hc826x := hc826; simp only [okS, okI, okW, okP] at hc826x)
     refine ha_s 10 hF rfl rfl rfl (wn_f hF rfl rfl rfl rfl) (.inr hSS) ?_; clear hF; intro a hF
     refine ha_s 11 hF rfl rfl rfl (wn_f hF rfl rfl rfl rfl) (.inr hSS) ?_; clear hF; intro a hF
     refine ha_s 12 hF rfl rfl rfl (wn_f hF rfl rfl rfl rfl) (.inr hSS) ?_; clear hF; intro a hF
     refine ha_s 13 hF rfl rfl rfl (wn_f hF rfl rfl rfl rfl) (.inr hSS) ?_; clear hF; intro a hF
     refine ha_s 14 hF rfl rfl rfl (wn_u hF rfl rfl rfl rfl) (.inr hSS) ?_; clear hF; intro a hF
     refine ha_s 15 hF rfl rfl rfl (wn_u hF rfl rfl rfl rfl) (.inr hSS) ?_; clear hF; intro a hF
     refine ha_s 16 hF rfl rfl rfl (wn_u hF rfl rfl rfl rfl) (.inr hSS) ?_; clear hF; intro a hF
     refine ha_s 17 hF rfl rfl rfl (wn_u hF rfl rfl rfl rfl) (.inr hSS) ?_; clear hF; intro a hF
     refine ha_s 18 hF rfl rfl rfl (wn_u hF rfl rfl rfl rfl) (.inr hSS) ?_; clear hF; intro a hF
     refine ha_s 19 hF rfl rfl rfl (wn_u hF rfl rfl rfl rfl) (.inr hSS) ?_; clear hF; intro a hF
     refine ha_s 20 hF rfl rfl rfl (wn_u hF rfl rfl rfl rfl) (.inr hSS) ?_; clear hF; intro a hF
     refine ha_s 21 hF rfl rfl rfl (wn_u hF rfl rfl rfl rfl) (.inr hSS) ?_; clear hF; intro a hF
     refine ha_s 22 hF rfl rfl rfl (wn_u hF rfl rfl rfl rfl) (.inr hSS) ?_; clear hF; intro a hF
     refine ha_s 23 hF rfl rfl rfl (wn_u hF rfl rfl rfl rfl) (.inr hSS) ?_; clear hF; intro a hF
     refine ha_s 24 hF rfl rfl rfl (wn_u hF rfl rfl rfl rfl) (.inr hSS) ?_; clear hF; intro a hF
     refine ha_s 25 hF rfl rfl rfl (wn_u hF rfl rfl rfl rfl) (.inr hSS) ?_; clear hF; intro a hF
     refine ha_s 26 hF rfl rfl rfl (wn_u hF rfl rfl rfl rfl) (.inr hSS) ?_; clear hF; intro a hF
     refine ha_s 27 hF rfl rfl rfl (wn_f hF rfl rfl rfl rfl) (.inr hSS) ?_; clear hF; intro a hF
     refine ha_y 28 hF rfl rfl rfl (wn_none rfl) (.inr hSS) (pkT hF rfl rfl rfl) ?_; clear hF; intro a hF
     refine ha_y 29 hF rfl rfl rfl (wn_none rfl) (.inr hSS) (yl_move hF rfl rfl) ?_; clear hF; intro a hF
     refine ha_s 30 hF rfl rfl rfl (wn_f hF rfl rfl rfl rfl) (.inr hSS) ?_; clear hF; intro a hF
     refine ha_s 31 hF rfl rfl rfl (wn_f hF rfl rfl rfl rfl) (.inr hSS) ?_; clear hF; intro a hF
     refine ha_s 32 hF rfl rfl rfl (wn_f hF rfl rfl rfl rfl) (.inr hSS) ?_; clear hF; intro a hF
     refine ha_s 33 hF rfl rfl rfl (wn_f hF rfl rfl rfl rfl) (.inr hSS) ?_; clear hF; intro a hF
     refine ha_s 34 hF rfl rfl rfl (wn_f hF rfl rfl rfl rfl) (.inr hSS) ?_; clear hF; intro a hF
     refine ha_y 35 hF rfl rfl rfl (wn_none rfl) (.inr hSS) (pkT hF rfl rfl rfl) ?_; clear hF; intro a hF
     refine ha_done (by kernel_rfl) ?_ _
     refine cut_n ?_
     exact ⟨_, ndec_t (fun h9 => by obtain ⟨h7, h8⟩ := h9; simp only [okS, okI] at h8; first | exact absurd h7 (by assumption) | omega), hF.to [2, 3, 4, 5, 6, 56] rfl, (hS.sub [0, 1, 2, 3] (by decide) (by first | rfl | simp) (by simp))⟩
    ·first | (replace hc826 := of_decide_eq_false hc826) | (replace hc826 := of_decide_eq_true (bnot_f hc826)) | (replace hc826 := bnot_f hc826) | skip
     try (have hc826x := hc826; simp only [okS, okI, okW, okP] at hc826x)
     refine ha_y 10 hF rfl rfl rfl (wn_t hF rfl rfl rfl rfl) (.inr hSS) (yl_fieldAddr hF rfl rfl (fun w => by kernel_rfl : ∀ w, (Instr.fieldAt 45 (.pointer (some ⟨g752, 0, none⟩)) 1).run Try.prog w = .ok (.pointer (some ⟨g752, 1, none⟩)) w)) ?_; clear hF; intro a hF
     refine ha_l 11 hF rfl rfl rfl (wn_t hF rfl rfl rfl rfl) hSS (yl_load (fun _ h => h) hF rfl rfl 1 rfl ag3 rfl) ?_; clear hF; intro a hF
     refine ha_y 12 hF rfl rfl rfl (wn_t hF rfl rfl rfl rfl) (.inr hSS) (yl_bin hF rfl rfl rfl rfl (fun _ => run_neq)) ?_; clear hF; intro a hF
     refine ha_y 13 hF rfl rfl rfl (wn_t hF rfl rfl rfl rfl) (.inr hSS) (yl_move hF rfl rfl) ?_; clear hF; intro a hF
     refine fr_split hF (fun hc827 hF => ?_) (fun hc827 hF => ?_)
     ·first | (replace hc827 := of_decide_eq_true hc827) | (replace hc827 := of_decide_eq_false (bnot_t hc827)) | (replace hc827 := bnot_t hc827) | skip
      try (have hc827x := hc827; simp only [okS, okI, okW, okP] at hc827x)
      refine ha_y 14 hF rfl rfl rfl (wn_t hF rfl rfl rfl rfl) (.inr hSS) (yl_fieldAddr hF rfl rfl (fun w => by kernel_rfl : ∀ w, (Instr.fieldAt 45 (.pointer (some ⟨g752, 0, none⟩)) 3).run Try.prog w = .ok (.pointer (some ⟨g752, 3, none⟩)) w)) ?_; clear hF; intro a hF
      refine ha_l 15 hF rfl rfl rfl (wn_t hF rfl rfl rfl rfl) hSS (yl_load (fun _ h => h) hF rfl rfl 1 rfl ag3 rfl) ?_; clear hF; intro a hF
      refine ha_y 16 hF rfl rfl rfl (wn_t hF rfl rfl rfl rfl) (.inr hSS) (yl_bin hF rfl rfl rfl rfl (fun _ => run_lss)) ?_; clear hF; intro a hF
      refine ha_y 17 hF rfl rfl rfl (wn_t hF rfl rfl rfl rfl) (.inr hSS) (yl_move hF rfl rfl) ?_; clear hF; intro a hF
      refine fr_split hF (fun hc828 hF => ?_) (fun hc828 hF => ?_)
      ·first | (replace hc828 := of_decide_eq_true hc828) | (replace hc828 := of_decide_eq_false (bnot_t hc828)) | (replace hc828 := bnot_t hc828) | skip
       try (have hc828x := hc828; simp only [okS, okI, okW, okP] at hc828x)
       refine ha_s 18 hF rfl rfl rfl (wn_f hF rfl rfl rfl rfl) (.inr hSS) ?_; clear hF; intro a hF
       refine ha_s 19 hF rfl rfl rfl (wn_f hF rfl rfl rfl rfl) (.inr hSS) ?_; clear hF; intro a hF
       refine ha_s 20 hF rfl rfl rfl (wn_f hF rfl rfl rfl rfl) (.inr hSS) ?_; clear hF; intro a hF
       refine ha_s 21 hF rfl rfl rfl (wn_f hF rfl rfl rfl rfl) (.inr hSS) ?_; clear hF; intro a hF
       refine ha_s 22 hF rfl rfl rfl (wn_f hF rfl rfl rfl rfl) (.inr hSS) ?_; clear hF; intro a hF
       refine ha_s 23 hF rfl rfl rfl (wn_f hF rfl rfl rfl rfl) (.inr hSS) ?_; clear hF; intro a hF
       refine ha_s 24 hF rfl rfl rfl (wn_f hF rfl rfl rfl rfl) (.inr hSS) ?_; clear hF; intro a hF
       refine ha_s 25 hF rfl rfl rfl (wn_f hF rfl rfl rfl rfl) (.inr hSS) ?_; clear hF; intro a hF
       refine ha_y 26 hF rfl rfl rfl (wn_t hF rfl rfl rfl rfl) (.inr hSS) (pkT hF rfl rfl rfl) ?_; clear hF; intro a hF
       refine ha_y 27 hF rfl rfl rfl (wn_t hF rfl rfl rfl rfl) (.inr hSS) (pkT hF rfl rfl rfl) ?_; clear hF; intro a hF
       refine ha_y 28 hF rfl rfl rfl (wn_none rfl) (.inr hSS) (pkF hF rfl rfl rfl) ?_; clear hF; intro a hF
       refine ha_y 29 hF rfl rfl rfl (wn_none rfl) (.inr hSS) (yl_move hF rfl rfl) ?_; clear hF; intro a hF
       refine ha_s 30 hF rfl rfl rfl (wn_f hF rfl rfl rfl rfl) (.inr hSS) ?_; clear hF; intro a hF
       refine ha_s 31 hF rfl rfl rfl (wn_f hF rfl rfl rfl rfl) (.inr hSS) ?_; clear hF; intro a hF
       refine ha_s 32 hF rfl rfl rfl (wn_f hF rfl rfl rfl rfl) (.inr hSS) ?_; clear hF; intro a hF
       refine ha_s 33 hF rfl rfl rfl (wn_f hF rfl rfl rfl rfl) (.inr hSS) ?_; clear hF; intro a hF
       refine ha_s 34 hF rfl rfl rfl (wn_f hF rfl rfl rfl rfl) (.inr hSS) ?_; clear hF; intro a hF
       refine ha_y 35 hF rfl rfl rfl (wn_none rfl) (.inr hSS) (pkT hF rfl rfl rfl) ?_; clear hF; intro a hF
       refine ha_done (by kernel_rfl) ?_ _
       refine cut_n ?_
       exact ⟨_, ndec_t (fun h9 => by obtain ⟨h7, h8⟩ := h9; simp only [okS, okI] at h8; first | exact absurd h7 (by assumption) | omega), hF.to [2, 3, 4, 5, 6, 56] rfl, (hS.sub [0, 1, 2, 3] (by decide) (by first | rfl | simp) (by simp))⟩
      ·first | (replace hc828 := of_decide_eq_false hc828) | (replace hc828 := of_decide_eq_true (bnot_f hc828)) | (replace hc828 := bnot_f hc828) | skip
       try (have hc828x := hc828; simp only [okS, okI, okW, okP] at hc828x)
       refine ha_y 18 hF rfl rfl rfl (wn_t hF rfl rfl rfl rfl) (.inr hSS) (yl_fieldAddr hF rfl rfl (fun w => by kernel_rfl : ∀ w, (Instr.fieldAt 45 (.pointer (some ⟨g752, 0, none⟩)) 2).run Try.prog w = .ok (.pointer (some ⟨g752, 2, none⟩)) w)) ?_; clear hF; intro a hF
       refine ha_y 20 hF rfl rfl rfl (wn_t hF rfl rfl rfl rfl) (.inr hSS) (yl_fieldAddr hF rfl rfl (fun w => by kernel_rfl : ∀ w, (Instr.fieldAt 45 (.pointer (some ⟨g752, 0, none⟩)) 3).run Try.prog w = .ok (.pointer (some ⟨g752, 3, none⟩)) w)) ?_; clear hF; intro a hF
       refine ha_l 19 hF rfl rfl rfl (wn_t hF rfl rfl rfl rfl) hSS (yl_load (fun _ h => h) hF rfl rfl 1 rfl ag3 rfl) ?_; clear hF; intro a hF
       refine ha_l 21 hF rfl rfl rfl (wn_t hF rfl rfl rfl rfl) hSS (yl_load (fun _ h => h) hF rfl rfl 1 rfl ag3 rfl) ?_; clear hF; intro a hF
       refine ha_l 22 hF rfl rfl rfl (wn_t hF rfl rfl rfl rfl) hSS (yl_loadK (rs := [_, _, _]) (fun _ h => h) hF rfl rfl 0 rfl ag43 sz43 rfl rfl) ?_; clear hF; intro a hF
       refine ha_one 23 (by kernel_rfl) rfl (wn_t hF rfl rfl rfl rfl) (wp_call (vs := [_]) hF rfl rfl rfl rfl cf30 (secs_any st _ _ _ (by omega)) ?_)
       clear hF; rintro _ w ⟨rfl, hS1⟩ a hF
       replace hS := hS.callB hS1 rfl; clear hS1
       replace hSS := hS.sub [2, 1] (by decide) rfl (by simp)
       refine ⟨.inr hSS, ?_⟩
       refine ha_one 24 (by kernel_rfl) rfl (wn_t hF rfl rfl rfl rfl) (wp_call (vs := [_, _, _]) hF rfl rfl rfl rfl cf46 (in_any (s) (c) ((((st).size : Int) / 8)) _ (by omega)) ?_)
       clear hF; rintro _ w ⟨rfl, hS1⟩ a hF
       replace hS := hS.callB hS1 rfl; clear hS1
       replace hSS := hS.sub [2, 1] (by decide) rfl (by simp)
       refine ⟨.inr hSS, ?_⟩
       refine ha_y 25 hF rfl rfl rfl (wn_t hF rfl rfl rfl rfl) (.inr hSS) (yl_un hF rfl rfl (fun _ => run_not)) ?_; clear hF; intro a hF
       refine ha_y 26 hF rfl rfl rfl (wn_t hF rfl rfl rfl rfl) (.inr hSS) (pkF hF rfl rfl rfl) ?_; clear hF; intro a hF
       refine ha_y 27 hF rfl rfl rfl (wn_t hF rfl rfl rfl rfl) (.inr hSS) (pkT hF rfl rfl rfl) ?_; clear hF; intro a hF
       refine ha_y 28 hF rfl rfl rfl (wn_none rfl) (.inr hSS) (pkF hF rfl rfl rfl) ?_; clear hF; intro a hF
       refine ha_y 29 hF rfl rfl rfl (wn_none rfl) (.inr hSS) (yl_move hF rfl rfl) ?_; clear hF; intro a hF
       refine fr_split hF (fun hc829 hF => ?_) (fun hc829 hF => ?_)
       ·first | (replace hc829 := of_decide_eq_true hc829) | (replace hc829 := of_decide_eq_false (bnot_t hc829)) | (replace hc829 := bnot_t hc829) | skip
        try (have hc829x := hc829; simp only [okS, okI, okW, okP] at hc829x)
        refine ha_s 30 hF rfl rfl rfl (wn_f hF rfl rfl rfl rfl) (.inr hSS) ?_; clear hF; intro a hF
        refine ha_s 31 hF rfl rfl rfl (wn_f hF rfl rfl rfl rfl) (.inr hSS) ?_; clear hF; intro a hF
        refine ha_s 32 hF rfl rfl rfl (wn_f hF rfl rfl rfl rfl) (.inr hSS) ?_; clear hF; intro a hF
        refine ha_s 33 hF rfl rfl rfl (wn_f hF rfl rfl rfl rfl) (.inr hSS) ?_; clear hF; intro a hF
        refine ha_s 34 hF rfl rfl rfl (wn_f hF rfl rfl rfl rfl) (.inr hSS) ?_; clear hF; intro a hF
        refine ha_y 35 hF rfl rfl rfl (wn_none rfl) (.inr hSS) (pkT hF rfl rfl rfl) ?_; clear hF; intro a hF
        refine ha_done (by kernel_rfl) ?_ _
        refine cut_n ?_
        exact ⟨_, ndec_t (fun h9 => by obtain ⟨h7, h8⟩ := h9; simp only [okS, okI] at h8; first | exact absurd h7 (by assumption) | omega), hF.to [2, 3, 4, 5, 6, 56] rfl, (hS.sub [0, 1, 2, 3] (by decide) (by first | rfl | simp) (by simp))⟩
       ·first | (replace hc829 := of_decide_eq_false hc829) | (replace hc829 := of_decide_eq_true (bnot_f hc829)) | (replace hc829 := bnot_f hc829) | skip
        try (have hc829x := hc829; simp only [okS, okI, okW, okP] at hc829x)
        refine ha_y 30 hF rfl rfl rfl (wn_t hF rfl rfl rfl rfl) (.inr hSS) (yl_fieldAddr hF rfl rfl (fun w => by kernel_rfl : ∀ w, (Instr.fieldAt 45 (.pointer (some ⟨g752, 0, none⟩)) 4).run Try.prog w = .ok (.pointer (some ⟨g752, 4, none⟩)) w)) ?_; clear hF; intro a hF
        refine ha_y 33 hF rfl rfl rfl (wn_t hF rfl rfl rfl rfl) (.inr hSS) (yl_move hF rfl rfl) ?_; clear hF; intro a hF
        refine ha_l 31 hF rfl rfl rfl (wn_t hF rfl rfl rfl rfl) hSS (yl_load (fun _ h => h) hF rfl rfl 1 rfl ag9 rfl) ?_; clear hF; intro a hF
        refine ha_y 32 hF rfl rfl rfl (wn_t hF rfl rfl rfl rfl) (.inr hSS) (yl_len hF rfl rfl (fun _ => run_lenStr Try.underlying9)) ?_; clear hF; intro a hF
        refine ha_y 34 hF rfl rfl rfl (wn_t hF rfl rfl rfl rfl) (.inr hSS) (yl_bin hF rfl rfl rfl rfl (fun _ => run_neq)) ?_; clear hF; intro a hF
        refine ha_y 35 hF rfl rfl rfl (wn_none rfl) (.inr hSS) (pkF hF rfl rfl rfl) ?_; clear hF; intro a hF
        refine ha_done (by kernel_rfl) ?_ _
        refine cut_n ?_
        exact ⟨_, (dec_d (q := ¬ fitsP st L rm k s c x) (by first | (have hd9i := okD_I (‹okD st L rm› : okD st L rm); have hw9 := hwr (by omega) (by omega); constructor <;> intro h9 <;> first | (intro h8; obtain ⟨h7, h8⟩ := h8; simp only [okS, okI] at h8; omega) | (intro h8; exact h9 ⟨by assumption, by simp only [okS, okI]; omega⟩) | (refine fun h8 => h9 ⟨by assumption, ?_⟩; simp only [okS, okI]; omega)) | (have hd9i := okD_I (‹okD st L rm› : okD st L rm); constructor <;> intro h9 <;> first | (intro h8; obtain ⟨h7, h8⟩ := h8; simp only [okS, okI] at h8; omega) | (intro h8; exact h9 ⟨by assumption, by simp only [okS, okI]; omega⟩) | (refine fun h8 => h9 ⟨by assumption, ?_⟩; simp only [okS, okI]; omega)) | (constructor <;> intro h9 <;> first | (intro h8; obtain ⟨h7, h8⟩ := h8; simp only [okS, okI] at h8; omega) | (intro h8; exact h9 ⟨by assumption, by simp only [okS, okI]; omega⟩) | (refine fun h8 => h9 ⟨by assumption, ?_⟩; simp only [okS, okI]; omega)))).trans decide_not, hF.to [2, 3, 4, 5, 6, 56] rfl, (hS.sub [0, 1, 2, 3] (by decide) (by first | rfl | simp) (by simp))⟩
     ·first | (replace hc827 := of_decide_eq_false hc827) | (replace hc827 := of_decide_eq_true (bnot_f hc827)) | (replace hc827 := bnot_f hc827) | skip
      try (have hc827x := hc827; simp only [okS, okI, okW, okP] at hc827x)
      refine ha_s 14 hF rfl rfl rfl (wn_f hF rfl rfl rfl rfl) (.inr hSS) ?_; clear hF; intro a hF
      refine ha_s 15 hF rfl rfl rfl (wn_f hF rfl rfl rfl rfl) (.inr hSS) ?_; clear hF; intro a hF
      refine ha_s 16 hF rfl rfl rfl (wn_f hF rfl rfl rfl rfl) (.inr hSS) ?_; clear hF; intro a hF
      refine ha_s 17 hF rfl rfl rfl (wn_f hF rfl rfl rfl rfl) (.inr hSS) ?_; clear hF; intro a hF
      refine ha_s 18 hF rfl rfl rfl (wn_u hF rfl rfl rfl rfl) (.inr hSS) ?_; clear hF; intro a hF
      refine ha_s 19 hF rfl rfl rfl (wn_u hF rfl rfl rfl rfl) (.inr hSS) ?_; clear hF; intro a hF
      refine ha_s 20 hF rfl rfl rfl (wn_u hF rfl rfl rfl rfl) (.inr hSS) ?_; clear hF; intro a hF
      refine ha_s 21 hF rfl rfl rfl (wn_u hF rfl rfl rfl rfl) (.inr hSS) ?_; clear hF; intro a hF
      refine ha_s 22 hF rfl rfl rfl (wn_u hF rfl rfl rfl rfl) (.inr hSS) ?_; clear hF; intro a hF
      refine ha_s 23 hF rfl rfl rfl (wn_u hF rfl rfl rfl rfl) (.inr hSS) ?_; clear hF; intro a hF
      refine ha_s 24 hF rfl rfl rfl (wn_u hF rfl rfl rfl rfl) (.inr hSS) ?_; clear hF; intro a hF
      refine ha_s 25 hF rfl rfl rfl (wn_u hF rfl rfl rfl rfl) (.inr hSS) ?_; clear hF; intro a hF
      refine ha_s 26 hF rfl rfl rfl (wn_f hF rfl rfl rfl rfl) (.inr hSS) ?_; clear hF; intro a hF
      refine ha_y 27 hF rfl rfl rfl (wn_t hF rfl rfl rfl rfl) (.inr hSS) (pkF hF rfl rfl rfl) ?_; clear hF; intro a hF
      refine ha_y 28 hF rfl rfl rfl (wn_none rfl) (.inr hSS) (pkF hF rfl rfl rfl) ?_; clear hF; intro a hF
      refine ha_y 29 hF rfl rfl rfl (wn_none rfl) (.inr hSS) (yl_move hF rfl rfl) ?_; clear hF; intro a hF
      refine ha_y 30 hF rfl rfl rfl (wn_t hF rfl rfl rfl rfl) (.inr hSS) (yl_fieldAddr hF rfl rfl (fun w => by kernel_rfl : ∀ w, (Instr.fieldAt 45 (.pointer (some ⟨g752, 0, none⟩)) 4).run Try.prog w = .ok (.pointer (some ⟨g752, 4, none⟩)) w)) ?_; clear hF; intro a hF
      refine ha_y 33 hF rfl rfl rfl (wn_t hF rfl rfl rfl rfl) (.inr hSS) (yl_move hF rfl rfl) ?_; clear hF; intro a hF
      refine ha_l 31 hF rfl rfl rfl (wn_t hF rfl rfl rfl rfl) hSS (yl_load (fun _ h => h) hF rfl rfl 1 rfl ag9 rfl) ?_; clear hF; intro a hF
      refine ha_y 32 hF rfl rfl rfl (wn_t hF rfl rfl rfl rfl) (.inr hSS) (yl_len hF rfl rfl (fun _ => run_lenStr Try.underlying9)) ?_; clear hF; intro a hF
      refine ha_y 34 hF rfl rfl rfl (wn_t hF rfl rfl rfl rfl) (.inr hSS) (yl_bin hF rfl rfl rfl rfl (fun _ => run_neq)) ?_; clear hF; intro a hF
      refine ha_y 35 hF rfl rfl rfl (wn_none rfl) (.inr hSS) (pkF hF rfl rfl rfl) ?_; clear hF; intro a hF
      refine ha_done (by kernel_rfl) ?_ _
      refine cut_n ?_
      exact ⟨_, (dec_d (q := ¬ fitsP st L rm k s c x) (by first | (have hd9i := okD_I (‹okD st L rm› : okD st L rm); have hw9 := hwr (by omega) (by omega); constructor <;> intro h9 <;> first | (intro h8; obtain ⟨h7, h8⟩ := h8; simp only [okS, okI] at h8; omega) | (intro h8; exact h9 ⟨by assumption, by simp only [okS, okI]; omega⟩) | (refine fun h8 => h9 ⟨by assumption, ?_⟩; simp only [okS, okI]; omega)) | (have hd9i := okD_I (‹okD st L rm› : okD st L rm); constructor <;> intro h9 <;> first | (intro h8; obtain ⟨h7, h8⟩ := h8; simp only [okS, okI] at h8; omega) | (intro h8; exact h9 ⟨by assumption, by simp only [okS, okI]; omega⟩) | (refine fun h8 => h9 ⟨by assumption, ?_⟩; simp only [okS, okI]; omega)) | (constructor <;> intro h9 <;> first | (intro h8; obtain ⟨h7, h8⟩ := h8; simp only [okS, okI] at h8; omega) | (intro h8; exact h9 ⟨by assumption, by simp only [okS, okI]; omega⟩) | (refine fun h8 => h9 ⟨by assumption, ?_⟩; simp only [okS, okI]; omega)))).trans decide_not, hF.to [2, 3, 4, 5, 6, 56] rfl, (hS.sub [0, 1, 2, 3] (by decide) (by first | rfl | simp) (by simp))⟩
  clear hF hS
  rintro a w ⟨bad, hcut823_0, hF, hS⟩
  have hbad := hcut823_0
  refine then_n ?_
  refine c_cond hF rfl (fun hc830 => ?_) (fun hc830 => ?_)
  ·first | (replace hc830 := of_decide_eq_true hc830) | (replace hc830 := of_decide_eq_false (bnot_t hc830)) | (replace hc830 := bnot_t hc830) | skip
   try (have hc830x := hc830; simp only [okS, okI, okW, okP] at hc830x)
   refine c_seq ?_
   refine c_region ?_
   have hnf : ¬ fitsP st L rm k s c x := fun h9 => by have h8 : bad = true := (by assumption); rw [decide_eq_true h9, h8] at hbad; simp at hbad
   refine seq_yl hF (wn_none rfl) rfl rfl (yl_loadK (rs := [_, _, _]) (fun _ h => h ▸ hS) hF rfl rfl 2 rfl ag43 sz43 rfl rfl) ?_; clear hF; intro a hF
   refine seq_wp (wn_none rfl) (wp_store (cs' := #[_, _, _]) hF hS rfl rfl rfl rfl 0 rfl sz43 (by simp [Value.cells, Value.oneCell']) (by simp [Value.cells]) rfl ?_)
   clear hF hS; intro a w hF hS
   refine asN hF rfl rfl rfl rfl rfl ?_; clear hF; intro a hF
   refine asN hF rfl rfl rfl rfl rfl ?_; clear hF; intro a hF
   refine wpList_nil ?_
   refine then_n ?_
   refine wp_ret ?_
   refine then_r ?_
   refine ret_ctt hF rfl (resC hS rfl 0 rfl ag43 sz43) rfl rfl ?_
   exact ⟨_, rfl, _, _, _, _, _, _, false, rfl, run_bad hnf, .inr (.inl ⟨rfl, rfl⟩), (hS.sub [] (by decide) (by first | rfl | simp) (by simp))⟩
  ·first | (replace hc830 := of_decide_eq_false hc830) | (replace hc830 := of_decide_eq_true (bnot_f hc830)) | (replace hc830 := bnot_f hc830) | skip
   try (have hc830x := hc830; simp only [okS, okI, okW, okP] at hc830x)
   refine wp_skip ?_
   refine then_n ?_
   refine c_seq ?_
   refine c_region ?_
   have hfit : fitsP st L rm k s c x := by have h8 : bad = false := (by assumption); rw [h8] at hbad; simpa using hbad
   have hfd := okD_I hfit.1
   refine seq_yl hF (wn_none rfl) rfl rfl (yl_fieldAddr hF rfl rfl (fun w => by kernel_rfl : ∀ w, (Instr.fieldAt 45 (.pointer (some ⟨g752, 0, none⟩)) 8).run Try.prog w = .ok (.pointer (some ⟨g752, 8, none⟩)) w)) ?_; clear hF; intro a hF
   refine seq_yl hF (wn_none rfl) rfl rfl (yl_loadK (rs := [_, _, _, _]) (fun _ h => h ▸ hS) hF rfl rfl 1 rfl ag27 sz27 rfl rfl) ?_; clear hF; intro a hF
   refine seq_wp (wn_none rfl) (wp_alloc (cs := #[_, _, _, _]) hF hS rfl rfl rfl zr27 rfl ?_)
   clear hF hS; intro a w g831 hF hS
   refine seq_wp (wn_none rfl) (wp_store (cs' := #[_, _, _, _]) hF hS rfl rfl rfl rfl 0 rfl sz27 (by simp [Value.cells, Value.oneCell']) (by simp [Value.cells]) rfl ?_)
   clear hF hS; intro a w hF hS
   refine wpList_nil ?_
   refine then_n ?_
   refine c_seq ?_
   refine c_seq ?_
   refine c_region ?_
   refine seq_yl hF (wn_none rfl) rfl rfl (yl_fieldAddr hF rfl rfl (fun w => by kernel_rfl : ∀ w, (Instr.fieldAt 27 (.pointer (some ⟨g831, 0, none⟩)) 0).run Try.prog w = .ok (.pointer (some ⟨g831, 0, none⟩)) w)) ?_; clear hF; intro a hF
   refine seq_yl hF (wn_none rfl) rfl rfl (yl_load (fun _ h => h ▸ hS) hF rfl rfl 0 rfl ag25 rfl) ?_; clear hF; intro a hF
   refine seq_yl hF (wn_none rfl) rfl rfl (yl_bin hF rfl rfl rfl rfl (fun _ => run_neq)) ?_; clear hF; intro a hF
   refine wpList_nil ?_
   refine then_n ?_
   refine c_cond hF rfl (fun hc832 => ?_) (fun hc832 => ?_)
   ·first | (replace hc832 := of_decide_eq_true hc832) | (replace hc832 := of_decide_eq_false (bnot_t hc832)) | (replace hc832 := bnot_t hc832) | skip
    try (have hc832x := hc832; simp only [okS, okI, okW, okP] at hc832x)
    refine c_seq ?_
    refine c_seq ?_
    refine c_region ?_
    refine seq_yl hF (wn_none rfl) rfl rfl (yl_fieldAddr hF rfl rfl (fun w => by kernel_rfl : ∀ w, (Instr.fieldAt 45 (.pointer (some ⟨g752, 0, none⟩)) 1).run Try.prog w = .ok (.pointer (some ⟨g752, 1, none⟩)) w)) ?_; clear hF; intro a hF
    refine seq_yl hF (wn_none rfl) rfl rfl (yl_load (fun _ h => h ▸ hS) hF rfl rfl 2 rfl ag3 rfl) ?_; clear hF; intro a hF
    refine seq_yl hF (wn_none rfl) rfl rfl (yl_bin hF rfl rfl rfl rfl (fun _ => run_neq)) ?_; clear hF; intro a hF
    refine wpList_nil ?_
    refine then_n ?_
    refine c_cond hF rfl (fun hc833 => ?_) (fun hc833 => ?_)
    ·first | (replace hc833 := of_decide_eq_true hc833) | (replace hc833 := of_decide_eq_false (bnot_t hc833)) | (replace hc833 := bnot_t hc833) | skip
     try (have hc833x := hc833; simp only [okS, okI, okW, okP] at hc833x)
     refine c_seq ?_
     refine ha_startS hS [3, 0] 6 (by kernel_rfl) ?_; clear hS; intro w hS
     have hSS := hS.sub [3, 0] (by decide) rfl (by simp)
     refine ha_y 1 hF rfl rfl rfl (wn_none rfl) (.inr hSS) (yl_fieldAddr hF rfl rfl (fun w => by kernel_rfl : ∀ w, (Instr.fieldAt 27 (.pointer (some ⟨g831, 0, none⟩)) 0).run Try.prog w = .ok (.pointer (some ⟨g831, 0, none⟩)) w)) ?_; clear hF; intro a hF
     refine ha_l 0 hF rfl rfl rfl (wn_none rfl) hSS (yl_loadK (rs := [_, _, _]) (fun _ h => h) hF rfl rfl 0 rfl ag43 sz43 rfl rfl) ?_; clear hF; intro a hF
     refine ha_l 2 hF rfl rfl rfl (wn_none rfl) hSS (yl_load (fun _ h => h) hF rfl rfl 1 rfl ag25 rfl) ?_; clear hF; intro a hF
     refine ha_one 3 (by kernel_rfl) rfl (wn_none rfl) (wp_store (cs' := #[_, _, _]) hF hS rfl rfl rfl rfl 1 rfl sz43 (by simp [Value.cells, Value.oneCell']) (by simp [Value.cells]) rfl ?_)
     clear hF hS; intro a w hF hS
     replace hSS := hS.sub [3, 0] (by decide) rfl (by simp)
     refine ⟨.inr hSS, ?_⟩
     refine ha_y 4 hF rfl rfl rfl (wn_none rfl) (.inr hSS) (yl_assign hF rfl rfl) ?_; clear hF; intro a hF
     refine ha_y 5 hF rfl rfl rfl (wn_none rfl) (.inr hSS) (yl_assign hF rfl rfl) ?_; clear hF; intro a hF
     refine ha_done (by kernel_rfl) ?_ _
     refine then_n ?_
     refine wp_ret ?_
     refine then_r ?_
     refine then_r ?_
     refine ret_ctt hF rfl (resC hS rfl 1 rfl ag43 sz43) rfl rfl ?_
     exact ⟨_, rfl, _, _, _, _, _, _, false, rfl, (by first | exact run_err hfit (by omega) (by omega) | exact run_torn hfit (by omega) (by omega) (torn_none (fun h9 => by obtain ⟨h7, h8⟩ := h9; first | omega | simp_all) (by omega))), .inr (.inl ⟨rfl, rfl⟩), (hS.sub [] (by decide) (by first | rfl | simp) (by simp))⟩
    ·first | (replace hc833 := of_decide_eq_false hc833) | (replace hc833 := of_decide_eq_true (bnot_f hc833)) | (replace hc833 := bnot_f hc833) | skip
     try (have hc833x := hc833; simp only [okS, okI, okW, okP] at hc833x)
     refine wp_skip ?_
     refine then_n ?_
     refine c_seq ?_
     refine c_region ?_
     have hk2 : k = 2 := by omega
     obtain ⟨hs9, hx9⟩ : okS (st.size : Int) s c ∧ (x.size : Int) = c * 8 := by have h9 := hfit.2; rcases h9 with h9 | h9 | h9; omega; omega; exact h9.2
     have hs9x := hs9; simp only [okS, okI] at hs9x; have hdn := doneF_b (dn := dn) (c := c) (by omega)
     refine seq_yl hF (wn_none rfl) rfl rfl (yl_fieldAddr hF rfl rfl (fun w => by kernel_rfl : ∀ w, (Instr.fieldAt 27 (.pointer (some ⟨g831, 0, none⟩)) 1).run Try.prog w = .ok (.pointer (some ⟨g831, 1, none⟩)) w)) ?_; clear hF; intro a hF
     refine seq_yl hF (wn_none rfl) rfl rfl (yl_load (fun _ h => h ▸ hS) hF rfl rfl 0 rfl ag3 rfl) ?_; clear hF; intro a hF
     refine seq_yl hF (wn_none rfl) rfl rfl (yl_fieldAddr hF rfl rfl (fun w => by kernel_rfl : ∀ w, (Instr.fieldAt 45 (.pointer (some ⟨g752, 0, none⟩)) 3).run Try.prog w = .ok (.pointer (some ⟨g752, 3, none⟩)) w)) ?_; clear hF; intro a hF
     refine seq_yl hF (wn_none rfl) rfl rfl (yl_load (fun _ h => h ▸ hS) hF rfl rfl 2 rfl ag3 rfl) ?_; clear hF; intro a hF
     refine seq_yl hF (wn_none rfl) rfl rfl (yl_min2 hF rfl rfl rfl) ?_; clear hF; intro a hF
     refine seq_yl hF (wn_none rfl) rfl rfl (yl_max2 hF rfl rfl rfl) ?_; clear hF; intro a hF
     replace hF := fr_seti (b' := ((doneF dn c))) hF (rfl)
     refine asN hF rfl rfl rfl rfl rfl ?_; clear hF; intro a hF
     refine wpList_nil ?_
     refine then_n ?_
     refine c_seq ?_
     refine c_region ?_
     refine mvN hF rfl rfl rfl rfl rfl ?_; clear hF; intro a hF
     refine seq_yl hF (wn_none rfl) rfl rfl (yl_bin hF rfl rfl rfl rfl (fun _ => run_mul (by refine ⟨?_, ?_⟩ <;> omega))) ?_; clear hF; intro a hF
     refine asN hF rfl rfl rfl rfl rfl ?_; clear hF; intro a hF
     refine wpList_nil ?_
     refine then_n ?_
     refine c_seq ?_
     refine c_seq ?_
     refine c_region ?_
     refine seq_yl hF (wn_none rfl) rfl rfl (yl_fieldAddr hF rfl rfl (fun w => by kernel_rfl : ∀ w, (Instr.fieldAt 27 (.pointer (some ⟨g831, 0, none⟩)) 2).run Try.prog w = .ok (.pointer (some ⟨g831, 2, none⟩)) w)) ?_; clear hF; intro a hF
     refine seq_yl hF (wn_none rfl) rfl rfl (yl_load (fun _ h => h ▸ hS) hF rfl rfl 0 rfl ag4 rfl) ?_; clear hF; intro a hF
     refine mvN hF rfl rfl rfl rfl rfl ?_; clear hF; intro a hF
     refine fr_split hF (fun hc834 hF => ?_) (fun hc834 hF => ?_)
     ·first | (replace hc834 := of_decide_eq_true hc834) | (replace hc834 := of_decide_eq_false (bnot_t hc834)) | (replace hc834 := bnot_t hc834) | skip
      try (have hc834x := hc834; simp only [okS, okI, okW, okP] at hc834x)
      refine seq_yl hF (wn_t hF rfl rfl rfl rfl) rfl rfl (yl_move hF rfl rfl) ?_; clear hF; intro a hF
      refine seq_yl hF (wn_t hF rfl rfl rfl rfl) rfl rfl (yl_fieldAddr hF rfl rfl (fun w => by kernel_rfl : ∀ w, (Instr.fieldAt 45 (.pointer (some ⟨g752, 0, none⟩)) 3).run Try.prog w = .ok (.pointer (some ⟨g752, 3, none⟩)) w)) ?_; clear hF; intro a hF
      refine seq_yl hF (wn_t hF rfl rfl rfl rfl) rfl rfl (yl_load (fun _ h => h ▸ hS) hF rfl rfl 2 rfl ag3 rfl) ?_; clear hF; intro a hF
      refine seq_yl hF (wn_t hF rfl rfl rfl rfl) rfl rfl (yl_bin hF rfl rfl rfl rfl (fun _ => run_lss)) ?_; clear hF; intro a hF
      refine seq_yl hF (wn_none rfl) rfl rfl (pkT hF rfl rfl rfl) ?_; clear hF; intro a hF
      refine wpList_nil ?_
      refine then_n ?_
      refine c_cond hF rfl (fun hc835 => ?_) (fun hc835 => ?_)
      ·first | (replace hc835 := of_decide_eq_true hc835) | (replace hc835 := of_decide_eq_false (bnot_t hc835)) | (replace hc835 := bnot_t hc835) | skip
       try (have hc835x := hc835; simp only [okS, okI, okW, okP] at hc835x)
       refine c_seq ?_
       refine c_region ?_
       refine seq_yl hF (wn_none rfl) rfl rfl (yl_loadK (rs := [_, _, _]) (fun _ h => h ▸ hS) hF rfl rfl 3 rfl ag43 sz43 rfl rfl) ?_; clear hF; intro a hF
       refine seq_yl hF (wn_none rfl) rfl rfl (yl_fieldAddr hF rfl rfl (fun w => by kernel_rfl : ∀ w, (Instr.fieldAt 45 (.pointer (some ⟨g752, 0, none⟩)) 2).run Try.prog w = .ok (.pointer (some ⟨g752, 2, none⟩)) w)) ?_; clear hF; intro a hF
       refine seq_yl hF (wn_none rfl) rfl rfl (yl_load (fun _ h => h ▸ hS) hF rfl rfl 2 rfl ag3 rfl) ?_; clear hF; intro a hF
       refine mvN hF rfl rfl rfl rfl rfl ?_; clear hF; intro a hF
       refine seq_yl hF (wn_none rfl) rfl rfl (yl_bin hF rfl rfl rfl rfl (fun _ => run_add (by refine ⟨?_, ?_⟩ <;> omega))) ?_; clear hF; intro a hF
       refine seq_wp (wn_none rfl) (wp_call (vs := [_, _]) hF rfl rfl rfl rfl cf47 (vers2_any st _ L (rm) (((s) + ((doneF dn c)))) _ (hS.rdRo 4 rfl) (by first | omega | (simp; done)) (by first | omega | (simp; done))) ?_)
       clear hF; rintro _ w ⟨v836, M837, rfl, hM838, hS1⟩ a hF
       replace hS := hS.callB hS1 rfl; clear hS1
       obtain ⟨Av836, cv836, rfl⟩ := hS.form 0 rfl
       have hM838l := vers_len st L (rm) (((s) + ((doneF dn c)))); rw [← hM838] at hM838l
       have hM8382 : M837 = versC st L (((s) + ((doneF dn c)))) := hM838.trans (if_pos ⟨hfit.1, okS_in hs9 (i := doneF dn c) hdn.1 (by omega)⟩)
       have hM838n := versC_len st L (((s) + ((doneF dn c)))); rw [← hM8382] at hM838n
       refine asN hF rfl rfl rfl rfl rfl ?_; clear hF; intro a hF
       refine wpList_nil ?_
       refine then_n ?_
       refine c_seq ?_
       refine ha_startS hS [3, 0] 14 (by kernel_rfl) ?_; clear hS; intro w hS
       have hSS := hS.sub [3, 0] (by decide) rfl (by simp)
       refine ha_y 0 hF rfl rfl rfl (wn_none rfl) (.inr hSS) (yl_fieldAddr hF rfl rfl (fun w => by kernel_rfl : ∀ w, (Instr.fieldAt 45 (.pointer (some ⟨g752, 0, none⟩)) 4).run Try.prog w = .ok (.pointer (some ⟨g752, 4, none⟩)) w)) ?_; clear hF; intro a hF
       refine ha_y 2 hF rfl rfl rfl (wn_none rfl) (.inr hSS) (yl_move hF rfl rfl) ?_; clear hF; intro a hF
       refine ha_y 3 hF rfl rfl rfl (wn_none rfl) (.inr hSS) (yl_move hF rfl rfl) ?_; clear hF; intro a hF
       refine ha_y 4 hF rfl rfl rfl (wn_none rfl) (.inr hSS) (yl_bin hF rfl rfl rfl rfl (fun _ => run_add (by refine ⟨?_, ?_⟩ <;> omega))) ?_; clear hF; intro a hF
       refine ha_y 6 hF rfl rfl rfl (wn_none rfl) (.inr hSS) (yl_move hF rfl rfl) ?_; clear hF; intro a hF
       refine ha_y 7 hF rfl rfl rfl (wn_none rfl) (.inr hSS) (yl_move hF rfl rfl) ?_; clear hF; intro a hF
       refine ha_y 8 hF rfl rfl rfl (wn_none rfl) (.inr hSS) (yl_len hF rfl rfl (fun _ => run_lenRd sl76 (hS.rdRow 0 rfl))) ?_; clear hF; intro a hF
       refine ha_y 9 hF rfl rfl rfl (wn_none rfl) (.inr hSS) (yl_bin hF rfl rfl rfl rfl (fun _ => run_dec (c := 1) (by omega) (by omega))) ?_; clear hF; intro a hF
       have hlt_hx839 : ((M837).length - 1) < (M837).length := by first | omega | (simp; done) | (simp; omega)
       obtain ⟨ad840, rfl⟩ := rd_some (hS.rdRow 0 rfl) hlt_hx839
       obtain ⟨x839, hx839⟩ := get_some hlt_hx839
       refine ha_y 10 hF rfl rfl rfl (wn_none rfl) (.inr hSS) (yl_indexAddr hF rfl rfl rfl (fun _ => run_idx' sl76 sz9 (hS.rdRow 0 rfl) hlt_hx839)) ?_; clear hF; intro a hF
       refine ha_l 1 hF rfl rfl rfl (wn_none rfl) hSS (yl_load (fun _ h => h) hF rfl rfl 0 rfl ag9 rfl) ?_; clear hF; intro a hF
       have hz841 := subs_size (s := x) (i := ((((doneF dn c)) * (8 : Int)))) (j := ((((((doneF dn c)) * (8 : Int))) + (8 : Int)))) (by omega) (by omega) (by omega)
       refine ha_y 5 hF rfl rfl rfl (wn_none rfl) (.inr hSS) (yl_subsLH (s := x) (i := ((((doneF dn c)) * (8 : Int)))) (j := ((((((doneF dn c)) * (8 : Int))) + (8 : Int)))) hF rfl rfl rfl rfl Try.underlying9 (by omega) (by omega) (by omega)) ?_; clear hF; intro a hF
       refine ha_l 11 hF rfl rfl rfl (wn_none rfl) hSS (yl_loadAt hF rfl rfl ag9 (fun _ h => rd_cell0 (enc := encS) (Sat.rdRow h 1 rfl) encS_len hx839 rfl rfl)) ?_; clear hF; intro a hF
       have hxn := newest_at (k := (M837).length - 1) (by rw [← hM8382]; exact hx839) (by rw [← hM8382])
       have hxs := newest_size hfit.1.2.2.2 (okS_in hs9 (i := doneF dn c) hdn.1 (by omega)); rw [← hxn] at hxs
       refine ha_one 12 (by kernel_rfl) rfl (wn_none rfl) (wp_call (vs := [_, _]) hF rfl rfl rfl rfl cf32 (torn2_any (subs x ((((doneF dn c)) * (8 : Int))) ((((((doneF dn c)) * (8 : Int))) + (8 : Int)))) x839 _ (by omega) (by omega) (by omega) (by omega)) ?_)
       clear hF; rintro _ w ⟨rfl, hS1⟩ a hF
       replace hS := hS.callB hS1 rfl; clear hS1
       have hz842 := cat_size (subs (subs x ((((doneF dn c)) * (8 : Int))) ((((((doneF dn c)) * (8 : Int))) + (8 : Int)))) 0 4) (subs x839 4 ((x839).size : Int)); rw [subs_size (s := (subs x ((((doneF dn c)) * (8 : Int))) ((((((doneF dn c)) * (8 : Int))) + (8 : Int))))) (i := 0) (j := 4) (by omega) (by omega) (by omega), subs_size (s := x839) (i := 4) (j := ((x839).size : Int)) (by omega) (by omega) (by omega)] at hz842
       replace hSS := hS.sub [3, 0] (by decide) rfl (by simp)
       refine ⟨.inr hSS, ?_⟩
       refine ha_y 13 hF rfl rfl rfl (wn_none rfl) (.inr hSS) (yl_assign hF rfl rfl) ?_; clear hF; intro a hF
       refine ha_done (by kernel_rfl) ?_ _
       refine then_n ?_
       refine c_seq ?_
       refine c_seq ?_
       refine c_region ?_
       refine mvN hF rfl rfl rfl rfl rfl ?_; clear hF; intro a hF
       refine seq_yl hF (wn_none rfl) rfl rfl (yl_bin hF rfl rfl rfl rfl (fun _ => run_gtr)) ?_; clear hF; intro a hF
       refine wpList_nil ?_
       refine then_n ?_
       refine c_cond hF rfl (fun hc843 => ?_) (fun hc843 => ?_)
       ·first | (replace hc843 := of_decide_eq_true hc843) | (replace hc843 := of_decide_eq_false (bnot_t hc843)) | (replace hc843 := bnot_t hc843) | skip
        try (have hc843x := hc843; simp only [okS, okI, okW, okP] at hc843x)
        refine ha_startS hS [4, 3] 13 (by kernel_rfl) ?_; clear hS; intro w hS
        have hSS := hS.sub [4, 3] (by decide) rfl (by simp)
        refine ha_y 1 hF rfl rfl rfl (wn_none rfl) (.inr hSS) (yl_fieldAddr hF rfl rfl (fun w => by kernel_rfl : ∀ w, (Instr.fieldAt 45 (.pointer (some ⟨g752, 0, none⟩)) 2).run Try.prog w = .ok (.pointer (some ⟨g752, 2, none⟩)) w)) ?_; clear hF; intro a hF
        refine ha_y 3 hF rfl rfl rfl (wn_none rfl) (.inr hSS) (yl_fieldAddr hF rfl rfl (fun w => by kernel_rfl : ∀ w, (Instr.fieldAt 45 (.pointer (some ⟨g752, 0, none⟩)) 4).run Try.prog w = .ok (.pointer (some ⟨g752, 4, none⟩)) w)) ?_; clear hF; intro a hF
        refine ha_y 5 hF rfl rfl rfl (wn_none rfl) (.inr hSS) (yl_move hF rfl rfl) ?_; clear hF; intro a hF
        refine ha_y 7 hF rfl rfl rfl (wn_none rfl) (.inr hSS) (yl_fieldAddr hF rfl rfl (fun w => by kernel_rfl : ∀ w, (Instr.fieldAt 45 (.pointer (some ⟨g752, 0, none⟩)) 5).run Try.prog w = .ok (.pointer (some ⟨g752, 5, none⟩)) w)) ?_; clear hF; intro a hF
        refine ha_l 0 hF rfl rfl rfl (wn_none rfl) hSS (yl_loadK (rs := [_, _, _]) (fun _ h => h) hF rfl rfl 0 rfl ag43 sz43 rfl rfl) ?_; clear hF; intro a hF
        refine ha_l 2 hF rfl rfl rfl (wn_none rfl) hSS (yl_load (fun _ h => h) hF rfl rfl 1 rfl ag3 rfl) ?_; clear hF; intro a hF
        refine ha_l 4 hF rfl rfl rfl (wn_none rfl) hSS (yl_load (fun _ h => h) hF rfl rfl 1 rfl ag9 rfl) ?_; clear hF; intro a hF
        have hz844 := subs_size (s := x) (i := 0) (j := ((((doneF dn c)) * (8 : Int)))) (by omega) (by omega) (by omega)
        refine ha_y 6 hF rfl rfl rfl (wn_none rfl) (.inr hSS) (yl_subsH (s := x) (j := ((((doneF dn c)) * (8 : Int)))) hF rfl rfl rfl Try.underlying9 (by omega) (by omega)) ?_; clear hF; intro a hF
        refine ha_l 8 hF rfl rfl rfl (wn_none rfl) hSS (yl_load (fun _ h => h) hF rfl rfl 1 rfl ag4 rfl) ?_; clear hF; intro a hF
        refine ha_one 9 (by kernel_rfl) rfl (wn_none rfl) (wp_call (vs := [_, _, _, _]) hF rfl rfl rfl rfl cf48 (write2_any st _ L (rm) (s) (subs x 0 ((((doneF dn c)) * (8 : Int)))) fua _ (hS.rdRo 5 rfl) (by first | omega | (simp; done)) (by first | omega | (simp; done)) (by first | omega | (simp; done))) ?_)
        clear hF; rintro _ w ⟨st845, v846, Lq847, rm848, b849, rfl, hq850, hS1⟩ a hF
        replace hS := hS.callB hS1 rfl; clear hS1
        obtain ⟨Av846, cv846, rfl⟩ := hS.form 0 rfl
        have hq850b := writeF_bd hq850
        obtain ⟨rfl, -, -, hq850d, hq850s, rfl⟩ := (writeF_ok hq850).resolve_right (fun h9 => h9.2.1 (⟨hfit.1, by unfold okW okS okI; omega⟩))
        have hq850i := okD_I hq850d
        replace hSS := hS.sub [5, 4] (by decide) rfl (by simp)
        refine ⟨.inr hSS, ?_⟩
        refine ha_y 10 hF rfl rfl rfl (wn_none rfl) (.inr hSS) (yl_move hF rfl rfl) ?_; clear hF; intro a hF
        refine ha_y 11 hF rfl rfl rfl (wn_none rfl) (.inr hSS) (yl_extract hF rfl rfl rfl) ?_; clear hF; intro a hF
        refine ha_y 12 hF rfl rfl rfl (wn_none rfl) (.inr hSS) (yl_extract hF rfl rfl rfl) ?_; clear hF; intro a hF
        refine ha_one 13 (by kernel_rfl) rfl (wn_none rfl) (wp_store (cs' := #[_, _, _]) hF hS rfl rfl rfl rfl 5 rfl sz43 (by simp [Value.cells, Value.oneCell']) (by simp [Value.cells]) rfl ?_)
        clear hF hS; intro a w hF hS
        refine ⟨.inl (by kernel_rfl), ?_⟩
        refine ha_done (by kernel_rfl) ?_ _
        refine then_n ?_
        refine c_seq ?_
        refine c_region ?_
        refine seq_yl hF (wn_none rfl) rfl rfl (yl_loadK (rs := [_, _, _]) (fun _ h => h ▸ hS) hF rfl rfl 5 rfl ag43 sz43 rfl rfl) ?_; clear hF; intro a hF
        refine seq_yl hF (wn_none rfl) rfl rfl (yl_fieldAddr hF rfl rfl (fun w => by kernel_rfl : ∀ w, (Instr.fieldAt 45 (.pointer (some ⟨g752, 0, none⟩)) 2).run Try.prog w = .ok (.pointer (some ⟨g752, 2, none⟩)) w)) ?_; clear hF; intro a hF
        refine seq_yl hF (wn_none rfl) rfl rfl (yl_load (fun _ h => h ▸ hS) hF rfl rfl 4 rfl ag3 rfl) ?_; clear hF; intro a hF
        refine mvN hF rfl rfl rfl rfl rfl ?_; clear hF; intro a hF
        refine seq_yl hF (wn_none rfl) rfl rfl (yl_bin hF rfl rfl rfl rfl (fun _ => run_add (by refine ⟨?_, ?_⟩ <;> omega))) ?_; clear hF; intro a hF
        refine mvN hF rfl rfl rfl rfl rfl ?_; clear hF; intro a hF
        refine seq_yl hF (wn_none rfl) rfl rfl (yl_fieldAddr hF rfl rfl (fun w => by kernel_rfl : ∀ w, (Instr.fieldAt 45 (.pointer (some ⟨g752, 0, none⟩)) 5).run Try.prog w = .ok (.pointer (some ⟨g752, 5, none⟩)) w)) ?_; clear hF; intro a hF
        refine seq_yl hF (wn_none rfl) rfl rfl (yl_load (fun _ h => h ▸ hS) hF rfl rfl 4 rfl ag4 rfl) ?_; clear hF; intro a hF
        refine seq_wp (wn_none rfl) (wp_call (vs := [_, _, _, _]) hF rfl rfl rfl rfl cf48 (write2_any st845 _ Lq847 ((rm)) (((s) + ((doneF dn c)))) (subs (subs x ((((doneF dn c)) * (8 : Int))) ((((((doneF dn c)) * (8 : Int))) + (8 : Int)))) 0 4 ++ subs x839 4 ((x839).size : Int)) fua _ (hS.rdRow 0 rfl) (by first | omega | (simp; done)) (by first | omega | (simp; done)) (by first | omega | (simp; done))) ?_)
        clear hF; rintro _ w ⟨st851, v852, Lq853, rm854, b855, rfl, hq856, hS1⟩ a hF
        replace hS := hS.callB hS1 rfl; clear hS1
        obtain ⟨Av852, cv852, rfl⟩ := hS.form 0 rfl
        have hq856b := writeF_bd hq856
        obtain ⟨rfl, -, -, hq856d, hq856s, rfl⟩ := (writeF_ok hq856).resolve_right (fun h9 => h9.2.1 (⟨hq850d, okW_of (by unfold okS okI; omega) (by omega)⟩))
        have hq856i := okD_I hq856d
        refine mvN hF rfl rfl rfl rfl rfl ?_; clear hF; intro a hF
        refine seq_yl hF (wn_none rfl) rfl rfl (yl_extract hF rfl rfl rfl) ?_; clear hF; intro a hF
        refine seq_yl hF (wn_none rfl) rfl rfl (yl_extract hF rfl rfl rfl) ?_; clear hF; intro a hF
        refine seq_wp (wn_none rfl) (wp_store (cs' := #[_, _, _]) hF hS rfl rfl rfl rfl 6 rfl sz43 (by simp [Value.cells, Value.oneCell']) (by simp [Value.cells]) rfl ?_)
        clear hF hS; intro a w hF hS
        refine wpList_nil ?_
        refine then_n ?_
        refine c_seq ?_
        refine ha_startS hS [6, 3] 6 (by kernel_rfl) ?_; clear hS; intro w hS
        have hSS := hS.sub [6, 3] (by decide) rfl (by simp)
        refine ha_y 1 hF rfl rfl rfl (wn_none rfl) (.inr hSS) (yl_fieldAddr hF rfl rfl (fun w => by kernel_rfl : ∀ w, (Instr.fieldAt 27 (.pointer (some ⟨g831, 0, none⟩)) 0).run Try.prog w = .ok (.pointer (some ⟨g831, 0, none⟩)) w)) ?_; clear hF; intro a hF
        refine ha_l 0 hF rfl rfl rfl (wn_none rfl) hSS (yl_loadK (rs := [_, _, _]) (fun _ h => h) hF rfl rfl 0 rfl ag43 sz43 rfl rfl) ?_; clear hF; intro a hF
        refine ha_l 2 hF rfl rfl rfl (wn_none rfl) hSS (yl_load (fun _ h => h) hF rfl rfl 1 rfl ag25 rfl) ?_; clear hF; intro a hF
        refine ha_one 3 (by kernel_rfl) rfl (wn_none rfl) (wp_store (cs' := #[_, _, _]) hF hS rfl rfl rfl rfl 4 rfl sz43 (by simp [Value.cells, Value.oneCell']) (by simp [Value.cells]) rfl ?_)
        clear hF hS; intro a w hF hS
        replace hSS := hS.sub [6, 3] (by decide) rfl (by simp)
        refine ⟨.inr hSS, ?_⟩
        refine ha_y 4 hF rfl rfl rfl (wn_none rfl) (.inr hSS) (yl_assign hF rfl rfl) ?_; clear hF; intro a hF
        refine ha_y 5 hF rfl rfl rfl (wn_none rfl) (.inr hSS) (yl_assign hF rfl rfl) ?_; clear hF; intro a hF
        refine ha_done (by kernel_rfl) ?_ _
        refine then_n ?_
        refine wp_ret ?_
        refine then_r ?_
        refine then_r ?_
        refine ret_ctt hF rfl (resC hS rfl 4 rfl ag43 sz43) rfl rfl ?_
        exact ⟨_, rfl, _, _, _, _, _, _, true, rfl, run_torn hfit (by omega) hk2 (torn_two hfit.1 hs9 hx9 (by assumption) (by omega) hxn (by omega) rfl hq850 hq856), .inl rfl, (hS.sub [0] (by decide) (by first | rfl | simp) (by simp))⟩
       ·first | (replace hc843 := of_decide_eq_false hc843) | (replace hc843 := of_decide_eq_true (bnot_f hc843)) | (replace hc843 := bnot_f hc843) | skip
        try (have hc843x := hc843; simp only [okS, okI, okW, okP] at hc843x)
        refine wp_skip ?_
        refine then_n ?_
        refine c_seq ?_
        refine c_region ?_
        refine seq_yl hF (wn_none rfl) rfl rfl (yl_loadK (rs := [_, _, _]) (fun _ h => h ▸ hS) hF rfl rfl 4 rfl ag43 sz43 rfl rfl) ?_; clear hF; intro a hF
        refine seq_yl hF (wn_none rfl) rfl rfl (yl_fieldAddr hF rfl rfl (fun w => by kernel_rfl : ∀ w, (Instr.fieldAt 45 (.pointer (some ⟨g752, 0, none⟩)) 2).run Try.prog w = .ok (.pointer (some ⟨g752, 2, none⟩)) w)) ?_; clear hF; intro a hF
        refine seq_yl hF (wn_none rfl) rfl rfl (yl_load (fun _ h => h ▸ hS) hF rfl rfl 3 rfl ag3 rfl) ?_; clear hF; intro a hF
        refine mvN hF rfl rfl rfl rfl rfl ?_; clear hF; intro a hF
        refine seq_yl hF (wn_none rfl) rfl rfl (yl_bin hF rfl rfl rfl rfl (fun _ => run_add (by refine ⟨?_, ?_⟩ <;> omega))) ?_; clear hF; intro a hF
        refine mvN hF rfl rfl rfl rfl rfl ?_; clear hF; intro a hF
        refine seq_yl hF (wn_none rfl) rfl rfl (yl_fieldAddr hF rfl rfl (fun w => by kernel_rfl : ∀ w, (Instr.fieldAt 45 (.pointer (some ⟨g752, 0, none⟩)) 5).run Try.prog w = .ok (.pointer (some ⟨g752, 5, none⟩)) w)) ?_; clear hF; intro a hF
        refine seq_yl hF (wn_none rfl) rfl rfl (yl_load (fun _ h => h ▸ hS) hF rfl rfl 3 rfl ag4 rfl) ?_; clear hF; intro a hF
        refine seq_wp (wn_none rfl) (wp_call (vs := [_, _, _, _]) hF rfl rfl rfl rfl cf48 (write2_any st _ L (rm) (((s) + ((doneF dn c)))) (subs (subs x ((((doneF dn c)) * (8 : Int))) ((((((doneF dn c)) * (8 : Int))) + (8 : Int)))) 0 4 ++ subs x839 4 ((x839).size : Int)) fua _ (hS.rdRo 5 rfl) (by first | omega | (simp; done)) (by first | omega | (simp; done)) (by first | omega | (simp; done))) ?_)
        clear hF; rintro _ w ⟨st857, v858, Lq859, rm860, b861, rfl, hq862, hS1⟩ a hF
        replace hS := hS.callB hS1 rfl; clear hS1
        obtain ⟨Av858, cv858, rfl⟩ := hS.form 0 rfl
        have hq862b := writeF_bd hq862
        obtain ⟨rfl, -, -, hq862d, hq862s, rfl⟩ := (writeF_ok hq862).resolve_right (fun h9 => h9.2.1 (⟨hfit.1, okW_of (by unfold okS okI; omega) (by omega)⟩))
        have hq862i := okD_I hq862d
        refine mvN hF rfl rfl rfl rfl rfl ?_; clear hF; intro a hF
        refine seq_yl hF (wn_none rfl) rfl rfl (yl_extract hF rfl rfl rfl) ?_; clear hF; intro a hF
        refine seq_yl hF (wn_none rfl) rfl rfl (yl_extract hF rfl rfl rfl) ?_; clear hF; intro a hF
        refine seq_wp (wn_none rfl) (wp_store (cs' := #[_, _, _]) hF hS rfl rfl rfl rfl 5 rfl sz43 (by simp [Value.cells, Value.oneCell']) (by simp [Value.cells]) rfl ?_)
        clear hF hS; intro a w hF hS
        refine wpList_nil ?_
        refine then_n ?_
        refine c_seq ?_
        refine ha_startS hS [5, 2] 6 (by kernel_rfl) ?_; clear hS; intro w hS
        have hSS := hS.sub [5, 2] (by decide) rfl (by simp)
        refine ha_y 1 hF rfl rfl rfl (wn_none rfl) (.inr hSS) (yl_fieldAddr hF rfl rfl (fun w => by kernel_rfl : ∀ w, (Instr.fieldAt 27 (.pointer (some ⟨g831, 0, none⟩)) 0).run Try.prog w = .ok (.pointer (some ⟨g831, 0, none⟩)) w)) ?_; clear hF; intro a hF
        refine ha_l 0 hF rfl rfl rfl (wn_none rfl) hSS (yl_loadK (rs := [_, _, _]) (fun _ h => h) hF rfl rfl 0 rfl ag43 sz43 rfl rfl) ?_; clear hF; intro a hF
        refine ha_l 2 hF rfl rfl rfl (wn_none rfl) hSS (yl_load (fun _ h => h) hF rfl rfl 1 rfl ag25 rfl) ?_; clear hF; intro a hF
        refine ha_one 3 (by kernel_rfl) rfl (wn_none rfl) (wp_store (cs' := #[_, _, _]) hF hS rfl rfl rfl rfl 3 rfl sz43 (by simp [Value.cells, Value.oneCell']) (by simp [Value.cells]) rfl ?_)
        clear hF hS; intro a w hF hS
        replace hSS := hS.sub [5, 2] (by decide) rfl (by simp)
        refine ⟨.inr hSS, ?_⟩
        refine ha_y 4 hF rfl rfl rfl (wn_none rfl) (.inr hSS) (yl_assign hF rfl rfl) ?_; clear hF; intro a hF
        refine ha_y 5 hF rfl rfl rfl (wn_none rfl) (.inr hSS) (yl_assign hF rfl rfl) ?_; clear hF; intro a hF
        refine ha_done (by kernel_rfl) ?_ _
        refine then_n ?_
        refine wp_ret ?_
        refine then_r ?_
        refine then_r ?_
        refine ret_ctt hF rfl (resC hS rfl 3 rfl ag43 sz43) rfl rfl ?_
        exact ⟨_, rfl, _, _, _, _, _, _, true, rfl, run_torn hfit (by omega) hk2 (torn_one hfit.1 hs9 hx9 (by assumption) (by omega) hxn rfl (by omega) hq862), .inl rfl, (hS.sub [0] (by decide) (by first | rfl | simp) (by simp))⟩
      ·first | (replace hc835 := of_decide_eq_false hc835) | (replace hc835 := of_decide_eq_true (bnot_f hc835)) | (replace hc835 := bnot_f hc835) | skip
       try (have hc835x := hc835; simp only [okS, okI, okW, okP] at hc835x)
       refine wp_skip ?_
       refine then_n ?_
       refine c_seq ?_
       refine c_seq ?_
       refine c_region ?_
       refine mvN hF rfl rfl rfl rfl rfl ?_; clear hF; intro a hF
       refine seq_yl hF (wn_none rfl) rfl rfl (yl_bin hF rfl rfl rfl rfl (fun _ => run_gtr)) ?_; clear hF; intro a hF
       refine wpList_nil ?_
       refine then_n ?_
       refine c_cond hF rfl (fun hc863 => ?_) (fun hc863 => ?_)
       ·first | (replace hc863 := of_decide_eq_true hc863) | (replace hc863 := of_decide_eq_false (bnot_t hc863)) | (replace hc863 := bnot_t hc863) | skip
        try (have hc863x := hc863; simp only [okS, okI, okW, okP] at hc863x)
        refine ha_startS hS [3, 2] 13 (by kernel_rfl) ?_; clear hS; intro w hS
        have hSS := hS.sub [3, 2] (by decide) rfl (by simp)
        refine ha_y 1 hF rfl rfl rfl (wn_none rfl) (.inr hSS) (yl_fieldAddr hF rfl rfl (fun w => by kernel_rfl : ∀ w, (Instr.fieldAt 45 (.pointer (some ⟨g752, 0, none⟩)) 2).run Try.prog w = .ok (.pointer (some ⟨g752, 2, none⟩)) w)) ?_; clear hF; intro a hF
        refine ha_y 3 hF rfl rfl rfl (wn_none rfl) (.inr hSS) (yl_fieldAddr hF rfl rfl (fun w => by kernel_rfl : ∀ w, (Instr.fieldAt 45 (.pointer (some ⟨g752, 0, none⟩)) 4).run Try.prog w = .ok (.pointer (some ⟨g752, 4, none⟩)) w)) ?_; clear hF; intro a hF
        refine ha_y 5 hF rfl rfl rfl (wn_none rfl) (.inr hSS) (yl_move hF rfl rfl) ?_; clear hF; intro a hF
        refine ha_y 7 hF rfl rfl rfl (wn_none rfl) (.inr hSS) (yl_fieldAddr hF rfl rfl (fun w => by kernel_rfl : ∀ w, (Instr.fieldAt 45 (.pointer (some ⟨g752, 0, none⟩)) 5).run Try.prog w = .ok (.pointer (some ⟨g752, 5, none⟩)) w)) ?_; clear hF; intro a hF
        refine ha_l 0 hF rfl rfl rfl (wn_none rfl) hSS (yl_loadK (rs := [_, _, _]) (fun _ h => h) hF rfl rfl 0 rfl ag43 sz43 rfl rfl) ?_; clear hF; intro a hF
        refine ha_l 2 hF rfl rfl rfl (wn_none rfl) hSS (yl_load (fun _ h => h) hF rfl rfl 1 rfl ag3 rfl) ?_; clear hF; intro a hF
        refine ha_l 4 hF rfl rfl rfl (wn_none rfl) hSS (yl_load (fun _ h => h) hF rfl rfl 1 rfl ag9 rfl) ?_; clear hF; intro a hF
        have hz864 := subs_size (s := x) (i := 0) (j := ((((doneF dn c)) * (8 : Int)))) (by omega) (by omega) (by omega)
        refine ha_y 6 hF rfl rfl rfl (wn_none rfl) (.inr hSS) (yl_subsH (s := x) (j := ((((doneF dn c)) * (8 : Int)))) hF rfl rfl rfl Try.underlying9 (by omega) (by omega)) ?_; clear hF; intro a hF
        refine ha_l 8 hF rfl rfl rfl (wn_none rfl) hSS (yl_load (fun _ h => h) hF rfl rfl 1 rfl ag4 rfl) ?_; clear hF; intro a hF
        refine ha_one 9 (by kernel_rfl) rfl (wn_none rfl) (wp_call (vs := [_, _, _, _]) hF rfl rfl rfl rfl cf48 (write2_any st _ L (rm) (s) (subs x 0 ((((doneF dn c)) * (8 : Int)))) fua _ (hS.rdRo 4 rfl) (by first | omega | (simp; done)) (by first | omega | (simp; done)) (by first | omega | (simp; done))) ?_)
        clear hF; rintro _ w ⟨st865, v866, Lq867, rm868, b869, rfl, hq870, hS1⟩ a hF
        replace hS := hS.callB hS1 rfl; clear hS1
        obtain ⟨Av866, cv866, rfl⟩ := hS.form 0 rfl
        have hq870b := writeF_bd hq870
        obtain ⟨rfl, -, -, hq870d, hq870s, rfl⟩ := (writeF_ok hq870).resolve_right (fun h9 => h9.2.1 (⟨hfit.1, by unfold okW okS okI; omega⟩))
        have hq870i := okD_I hq870d
        replace hSS := hS.sub [4, 3] (by decide) rfl (by simp)
        refine ⟨.inr hSS, ?_⟩
        refine ha_y 10 hF rfl rfl rfl (wn_none rfl) (.inr hSS) (yl_move hF rfl rfl) ?_; clear hF; intro a hF
        refine ha_y 11 hF rfl rfl rfl (wn_none rfl) (.inr hSS) (yl_extract hF rfl rfl rfl) ?_; clear hF; intro a hF
        refine ha_y 12 hF rfl rfl rfl (wn_none rfl) (.inr hSS) (yl_extract hF rfl rfl rfl) ?_; clear hF; intro a hF
        refine ha_one 13 (by kernel_rfl) rfl (wn_none rfl) (wp_store (cs' := #[_, _, _]) hF hS rfl rfl rfl rfl 4 rfl sz43 (by simp [Value.cells, Value.oneCell']) (by simp [Value.cells]) rfl ?_)
        clear hF hS; intro a w hF hS
        refine ⟨.inl (by kernel_rfl), ?_⟩
        refine ha_done (by kernel_rfl) ?_ _
        refine then_n ?_
        refine c_seq ?_
        refine ha_startS hS [4, 1] 6 (by kernel_rfl) ?_; clear hS; intro w hS
        have hSS := hS.sub [4, 1] (by decide) rfl (by simp)
        refine ha_y 1 hF rfl rfl rfl (wn_none rfl) (.inr hSS) (yl_fieldAddr hF rfl rfl (fun w => by kernel_rfl : ∀ w, (Instr.fieldAt 27 (.pointer (some ⟨g831, 0, none⟩)) 0).run Try.prog w = .ok (.pointer (some ⟨g831, 0, none⟩)) w)) ?_; clear hF; intro a hF
        refine ha_l 0 hF rfl rfl rfl (wn_none rfl) hSS (yl_loadK (rs := [_, _, _]) (fun _ h => h) hF rfl rfl 0 rfl ag43 sz43 rfl rfl) ?_; clear hF; intro a hF
        refine ha_l 2 hF rfl rfl rfl (wn_none rfl) hSS (yl_load (fun _ h => h) hF rfl rfl 1 rfl ag25 rfl) ?_; clear hF; intro a hF
        refine ha_one 3 (by kernel_rfl) rfl (wn_none rfl) (wp_store (cs' := #[_, _, _]) hF hS rfl rfl rfl rfl 2 rfl sz43 (by simp [Value.cells, Value.oneCell']) (by simp [Value.cells]) rfl ?_)
        clear hF hS; intro a w hF hS
        replace hSS := hS.sub [4, 1] (by decide) rfl (by simp)
        refine ⟨.inr hSS, ?_⟩
        refine ha_y 4 hF rfl rfl rfl (wn_none rfl) (.inr hSS) (yl_assign hF rfl rfl) ?_; clear hF; intro a hF
        refine ha_y 5 hF rfl rfl rfl (wn_none rfl) (.inr hSS) (yl_assign hF rfl rfl) ?_; clear hF; intro a hF
        refine ha_done (by kernel_rfl) ?_ _
        refine then_n ?_
        refine wp_ret ?_
        refine then_r ?_
        refine ret_ctt hF rfl (resC hS rfl 2 rfl ag43 sz43) rfl rfl ?_
        exact ⟨_, rfl, _, _, _, _, _, _, true, rfl, run_torn hfit (by omega) hk2 (torn_pre hfit.1 hs9 hx9 (fun h9 => by obtain ⟨h7, h8⟩ := h9; first | omega | simp_all) (by omega) hq870), .inl rfl, (hS.sub [0] (by decide) (by first | rfl | simp) (by simp))⟩
       ·first | (replace hc863 := of_decide_eq_false hc863) | (replace hc863 := of_decide_eq_true (bnot_f hc863)) | (replace hc863 := bnot_f hc863) | skip
        try (have hc863x := hc863; simp only [okS, okI, okW, okP] at hc863x)
        refine wp_skip ?_
        refine then_n ?_
        refine c_seq ?_
        refine ha_startS hS [3, 0] 6 (by kernel_rfl) ?_; clear hS; intro w hS
        have hSS := hS.sub [3, 0] (by decide) rfl (by simp)
        refine ha_y 1 hF rfl rfl rfl (wn_none rfl) (.inr hSS) (yl_fieldAddr hF rfl rfl (fun w => by kernel_rfl : ∀ w, (Instr.fieldAt 27 (.pointer (some ⟨g831, 0, none⟩)) 0).run Try.prog w = .ok (.pointer (some ⟨g831, 0, none⟩)) w)) ?_; clear hF; intro a hF
        refine ha_l 0 hF rfl rfl rfl (wn_none rfl) hSS (yl_loadK (rs := [_, _, _]) (fun _ h => h) hF rfl rfl 0 rfl ag43 sz43 rfl rfl) ?_; clear hF; intro a hF
        refine ha_l 2 hF rfl rfl rfl (wn_none rfl) hSS (yl_load (fun _ h => h) hF rfl rfl 1 rfl ag25 rfl) ?_; clear hF; intro a hF
        refine ha_one 3 (by kernel_rfl) rfl (wn_none rfl) (wp_store (cs' := #[_, _, _]) hF hS rfl rfl rfl rfl 1 rfl sz43 (by simp [Value.cells, Value.oneCell']) (by simp [Value.cells]) rfl ?_)
        clear hF hS; intro a w hF hS
        replace hSS := hS.sub [3, 0] (by decide) rfl (by simp)
        refine ⟨.inr hSS, ?_⟩
        refine ha_y 4 hF rfl rfl rfl (wn_none rfl) (.inr hSS) (yl_assign hF rfl rfl) ?_; clear hF; intro a hF
        refine ha_y 5 hF rfl rfl rfl (wn_none rfl) (.inr hSS) (yl_assign hF rfl rfl) ?_; clear hF; intro a hF
        refine ha_done (by kernel_rfl) ?_ _
        refine then_n ?_
        refine wp_ret ?_
        refine then_r ?_
        refine ret_ctt hF rfl (resC hS rfl 1 rfl ag43 sz43) rfl rfl ?_
        exact ⟨_, rfl, _, _, _, _, _, _, false, rfl, (by first | exact run_err hfit (by omega) (by omega) | exact run_torn hfit (by omega) (by omega) (torn_none (fun h9 => by obtain ⟨h7, h8⟩ := h9; first | omega | simp_all) (by omega))), .inr (.inl ⟨rfl, rfl⟩), (hS.sub [] (by decide) (by first | rfl | simp) (by simp))⟩
     ·first | (replace hc834 := of_decide_eq_false hc834) | (replace hc834 := of_decide_eq_true (bnot_f hc834)) | (replace hc834 := bnot_f hc834) | skip
      try (have hc834x := hc834; simp only [okS, okI, okW, okP] at hc834x)
      refine skF hF rfl rfl rfl rfl rfl rfl ?_; clear hF; intro a hF
      refine skF hF rfl rfl rfl rfl rfl rfl ?_; clear hF; intro a hF
      refine skF hF rfl rfl rfl rfl rfl rfl ?_; clear hF; intro a hF
      refine skF hF rfl rfl rfl rfl rfl rfl ?_; clear hF; intro a hF
      refine seq_yl hF (wn_none rfl) rfl rfl (pkF hF rfl rfl rfl) ?_; clear hF; intro a hF
      refine wpList_nil ?_
      refine then_n ?_
      refine c_cond_f hF rfl ?_
      refine wp_skip ?_
      refine then_n ?_
      refine c_seq ?_
      refine c_seq ?_
      refine c_region ?_
      refine mvN hF rfl rfl rfl rfl rfl ?_; clear hF; intro a hF
      refine seq_yl hF (wn_none rfl) rfl rfl (yl_bin hF rfl rfl rfl rfl (fun _ => run_gtr)) ?_; clear hF; intro a hF
      refine wpList_nil ?_
      refine then_n ?_
      refine c_cond hF rfl (fun hc871 => ?_) (fun hc871 => ?_)
      ·first | (replace hc871 := of_decide_eq_true hc871) | (replace hc871 := of_decide_eq_false (bnot_t hc871)) | (replace hc871 := bnot_t hc871) | skip
       try (have hc871x := hc871; simp only [okS, okI, okW, okP] at hc871x)
       refine ha_startS hS [3, 2] 13 (by kernel_rfl) ?_; clear hS; intro w hS
       have hSS := hS.sub [3, 2] (by decide) rfl (by simp)
       refine ha_y 1 hF rfl rfl rfl (wn_none rfl) (.inr hSS) (yl_fieldAddr hF rfl rfl (fun w => by kernel_rfl : ∀ w, (Instr.fieldAt 45 (.pointer (some ⟨g752, 0, none⟩)) 2).run Try.prog w = .ok (.pointer (some ⟨g752, 2, none⟩)) w)) ?_; clear hF; intro a hF
       refine ha_y 3 hF rfl rfl rfl (wn_none rfl) (.inr hSS) (yl_fieldAddr hF rfl rfl (fun w => by kernel_rfl : ∀ w, (Instr.fieldAt 45 (.pointer (some ⟨g752, 0, none⟩)) 4).run Try.prog w = .ok (.pointer (some ⟨g752, 4, none⟩)) w)) ?_; clear hF; intro a hF
       refine ha_y 5 hF rfl rfl rfl (wn_none rfl) (.inr hSS) (yl_move hF rfl rfl) ?_; clear hF; intro a hF
       refine ha_y 7 hF rfl rfl rfl (wn_none rfl) (.inr hSS) (yl_fieldAddr hF rfl rfl (fun w => by kernel_rfl : ∀ w, (Instr.fieldAt 45 (.pointer (some ⟨g752, 0, none⟩)) 5).run Try.prog w = .ok (.pointer (some ⟨g752, 5, none⟩)) w)) ?_; clear hF; intro a hF
       refine ha_l 0 hF rfl rfl rfl (wn_none rfl) hSS (yl_loadK (rs := [_, _, _]) (fun _ h => h) hF rfl rfl 0 rfl ag43 sz43 rfl rfl) ?_; clear hF; intro a hF
       refine ha_l 2 hF rfl rfl rfl (wn_none rfl) hSS (yl_load (fun _ h => h) hF rfl rfl 1 rfl ag3 rfl) ?_; clear hF; intro a hF
       refine ha_l 4 hF rfl rfl rfl (wn_none rfl) hSS (yl_load (fun _ h => h) hF rfl rfl 1 rfl ag9 rfl) ?_; clear hF; intro a hF
       have hz872 := subs_size (s := x) (i := 0) (j := ((((doneF dn c)) * (8 : Int)))) (by omega) (by omega) (by omega)
       refine ha_y 6 hF rfl rfl rfl (wn_none rfl) (.inr hSS) (yl_subsH (s := x) (j := ((((doneF dn c)) * (8 : Int)))) hF rfl rfl rfl Try.underlying9 (by omega) (by omega)) ?_; clear hF; intro a hF
       refine ha_l 8 hF rfl rfl rfl (wn_none rfl) hSS (yl_load (fun _ h => h) hF rfl rfl 1 rfl ag4 rfl) ?_; clear hF; intro a hF
       refine ha_one 9 (by kernel_rfl) rfl (wn_none rfl) (wp_call (vs := [_, _, _, _]) hF rfl rfl rfl rfl cf48 (write2_any st _ L (rm) (s) (subs x 0 ((((doneF dn c)) * (8 : Int)))) fua _ (hS.rdRo 4 rfl) (by first | omega | (simp; done)) (by first | omega | (simp; done)) (by first | omega | (simp; done))) ?_)
       clear hF; rintro _ w ⟨st873, v874, Lq875, rm876, b877, rfl, hq878, hS1⟩ a hF
       replace hS := hS.callB hS1 rfl; clear hS1
       obtain ⟨Av874, cv874, rfl⟩ := hS.form 0 rfl
       have hq878b := writeF_bd hq878
       obtain ⟨rfl, -, -, hq878d, hq878s, rfl⟩ := (writeF_ok hq878).resolve_right (fun h9 => h9.2.1 (⟨hfit.1, by unfold okW okS okI; omega⟩))
       have hq878i := okD_I hq878d
       replace hSS := hS.sub [4, 3] (by decide) rfl (by simp)
       refine ⟨.inr hSS, ?_⟩
       refine ha_y 10 hF rfl rfl rfl (wn_none rfl) (.inr hSS) (yl_move hF rfl rfl) ?_; clear hF; intro a hF
       refine ha_y 11 hF rfl rfl rfl (wn_none rfl) (.inr hSS) (yl_extract hF rfl rfl rfl) ?_; clear hF; intro a hF
       refine ha_y 12 hF rfl rfl rfl (wn_none rfl) (.inr hSS) (yl_extract hF rfl rfl rfl) ?_; clear hF; intro a hF
       refine ha_one 13 (by kernel_rfl) rfl (wn_none rfl) (wp_store (cs' := #[_, _, _]) hF hS rfl rfl rfl rfl 4 rfl sz43 (by simp [Value.cells, Value.oneCell']) (by simp [Value.cells]) rfl ?_)
       clear hF hS; intro a w hF hS
       refine ⟨.inl (by kernel_rfl), ?_⟩
       refine ha_done (by kernel_rfl) ?_ _
       refine then_n ?_
       refine c_seq ?_
       refine ha_startS hS [4, 1] 6 (by kernel_rfl) ?_; clear hS; intro w hS
       have hSS := hS.sub [4, 1] (by decide) rfl (by simp)
       refine ha_y 1 hF rfl rfl rfl (wn_none rfl) (.inr hSS) (yl_fieldAddr hF rfl rfl (fun w => by kernel_rfl : ∀ w, (Instr.fieldAt 27 (.pointer (some ⟨g831, 0, none⟩)) 0).run Try.prog w = .ok (.pointer (some ⟨g831, 0, none⟩)) w)) ?_; clear hF; intro a hF
       refine ha_l 0 hF rfl rfl rfl (wn_none rfl) hSS (yl_loadK (rs := [_, _, _]) (fun _ h => h) hF rfl rfl 0 rfl ag43 sz43 rfl rfl) ?_; clear hF; intro a hF
       refine ha_l 2 hF rfl rfl rfl (wn_none rfl) hSS (yl_load (fun _ h => h) hF rfl rfl 1 rfl ag25 rfl) ?_; clear hF; intro a hF
       refine ha_one 3 (by kernel_rfl) rfl (wn_none rfl) (wp_store (cs' := #[_, _, _]) hF hS rfl rfl rfl rfl 2 rfl sz43 (by simp [Value.cells, Value.oneCell']) (by simp [Value.cells]) rfl ?_)
       clear hF hS; intro a w hF hS
       replace hSS := hS.sub [4, 1] (by decide) rfl (by simp)
       refine ⟨.inr hSS, ?_⟩
       refine ha_y 4 hF rfl rfl rfl (wn_none rfl) (.inr hSS) (yl_assign hF rfl rfl) ?_; clear hF; intro a hF
       refine ha_y 5 hF rfl rfl rfl (wn_none rfl) (.inr hSS) (yl_assign hF rfl rfl) ?_; clear hF; intro a hF
       refine ha_done (by kernel_rfl) ?_ _
       refine then_n ?_
       refine wp_ret ?_
       refine then_r ?_
       refine ret_ctt hF rfl (resC hS rfl 2 rfl ag43 sz43) rfl rfl ?_
       exact ⟨_, rfl, _, _, _, _, _, _, true, rfl, run_torn hfit (by omega) hk2 (torn_pre hfit.1 hs9 hx9 (fun h9 => by obtain ⟨h7, h8⟩ := h9; first | omega | simp_all) (by omega) hq878), .inl rfl, (hS.sub [0] (by decide) (by first | rfl | simp) (by simp))⟩
      ·first | (replace hc871 := of_decide_eq_false hc871) | (replace hc871 := of_decide_eq_true (bnot_f hc871)) | (replace hc871 := bnot_f hc871) | skip
       try (have hc871x := hc871; simp only [okS, okI, okW, okP] at hc871x)
       refine wp_skip ?_
       refine then_n ?_
       refine c_seq ?_
       refine ha_startS hS [3, 0] 6 (by kernel_rfl) ?_; clear hS; intro w hS
       have hSS := hS.sub [3, 0] (by decide) rfl (by simp)
       refine ha_y 1 hF rfl rfl rfl (wn_none rfl) (.inr hSS) (yl_fieldAddr hF rfl rfl (fun w => by kernel_rfl : ∀ w, (Instr.fieldAt 27 (.pointer (some ⟨g831, 0, none⟩)) 0).run Try.prog w = .ok (.pointer (some ⟨g831, 0, none⟩)) w)) ?_; clear hF; intro a hF
       refine ha_l 0 hF rfl rfl rfl (wn_none rfl) hSS (yl_loadK (rs := [_, _, _]) (fun _ h => h) hF rfl rfl 0 rfl ag43 sz43 rfl rfl) ?_; clear hF; intro a hF
       refine ha_l 2 hF rfl rfl rfl (wn_none rfl) hSS (yl_load (fun _ h => h) hF rfl rfl 1 rfl ag25 rfl) ?_; clear hF; intro a hF
       refine ha_one 3 (by kernel_rfl) rfl (wn_none rfl) (wp_store (cs' := #[_, _, _]) hF hS rfl rfl rfl rfl 1 rfl sz43 (by simp [Value.cells, Value.oneCell']) (by simp [Value.cells]) rfl ?_)
       clear hF hS; intro a w hF hS
       replace hSS := hS.sub [3, 0] (by decide) rfl (by simp)
       refine ⟨.inr hSS, ?_⟩
       refine ha_y 4 hF rfl rfl rfl (wn_none rfl) (.inr hSS) (yl_assign hF rfl rfl) ?_; clear hF; intro a hF
       refine ha_y 5 hF rfl rfl rfl (wn_none rfl) (.inr hSS) (yl_assign hF rfl rfl) ?_; clear hF; intro a hF
       refine ha_done (by kernel_rfl) ?_ _
       refine then_n ?_
       refine wp_ret ?_
       refine then_r ?_
       refine ret_ctt hF rfl (resC hS rfl 1 rfl ag43 sz43) rfl rfl ?_
       exact ⟨_, rfl, _, _, _, _, _, _, false, rfl, (by first | exact run_err hfit (by omega) (by omega) | exact run_torn hfit (by omega) (by omega) (torn_none (fun h9 => by obtain ⟨h7, h8⟩ := h9; first | omega | simp_all) (by omega))), .inr (.inl ⟨rfl, rfl⟩), (hS.sub [] (by decide) (by first | rfl | simp) (by simp))⟩
   ·first | (replace hc832 := of_decide_eq_false hc832) | (replace hc832 := of_decide_eq_true (bnot_f hc832)) | (replace hc832 := bnot_f hc832) | skip
    try (have hc832x := hc832; simp only [okS, okI, okW, okP] at hc832x)
    refine wp_skip ?_
    refine then_n ?_
    refine c_seq ?_
    refine c_seq ?_
    refine c_region ?_
    refine seq_yl hF (wn_none rfl) rfl rfl (yl_fieldAddr hF rfl rfl (fun w => by kernel_rfl : ∀ w, (Instr.fieldAt 45 (.pointer (some ⟨g752, 0, none⟩)) 1).run Try.prog w = .ok (.pointer (some ⟨g752, 1, none⟩)) w)) ?_; clear hF; intro a hF
    refine seq_yl hF (wn_none rfl) rfl rfl (yl_load (fun _ h => h ▸ hS) hF rfl rfl 2 rfl ag3 rfl) ?_; clear hF; intro a hF
    refine wpList_nil ?_
    refine then_n ?_
    refine wp_block ?_
    refine c_seq ?_
    refine c_region ?_
    refine seq_yl hF (wn_none rfl) rfl rfl (yl_bin hF rfl rfl rfl rfl (fun _ => run_eql)) ?_; clear hF; intro a hF
    refine asN hF rfl rfl rfl rfl rfl ?_; clear hF; intro a hF
    refine wpList_nil ?_
    refine then_n ?_
    refine c_cond hF rfl (fun hc879 => ?_) (fun hc879 => ?_)
    ·first | (replace hc879 := of_decide_eq_true hc879) | (replace hc879 := of_decide_eq_false (bnot_t hc879)) | (replace hc879 := bnot_t hc879) | skip
     try (have hc879x := hc879; simp only [okS, okI, okW, okP] at hc879x)
     refine c_seq ?_
     refine c_region ?_
     refine seq_yl hF (wn_none rfl) rfl rfl (yl_loadK (rs := [_, _, _]) (fun _ h => h ▸ hS) hF rfl rfl 3 rfl ag43 sz43 rfl rfl) ?_; clear hF; intro a hF
     refine seq_yl hF (wn_none rfl) rfl rfl (yl_fieldAddr hF rfl rfl (fun w => by kernel_rfl : ∀ w, (Instr.fieldAt 45 (.pointer (some ⟨g752, 0, none⟩)) 2).run Try.prog w = .ok (.pointer (some ⟨g752, 2, none⟩)) w)) ?_; clear hF; intro a hF
     refine seq_yl hF (wn_none rfl) rfl rfl (yl_load (fun _ h => h ▸ hS) hF rfl rfl 2 rfl ag3 rfl) ?_; clear hF; intro a hF
     refine seq_yl hF (wn_none rfl) rfl rfl (yl_fieldAddr hF rfl rfl (fun w => by kernel_rfl : ∀ w, (Instr.fieldAt 45 (.pointer (some ⟨g752, 0, none⟩)) 3).run Try.prog w = .ok (.pointer (some ⟨g752, 3, none⟩)) w)) ?_; clear hF; intro a hF
     refine seq_yl hF (wn_none rfl) rfl rfl (yl_load (fun _ h => h ▸ hS) hF rfl rfl 2 rfl ag3 rfl) ?_; clear hF; intro a hF
     refine seq_wp (wn_none rfl) (wp_call (vs := [_, _, _]) hF rfl rfl rfl rfl cf31 (read2_any st _ L (rm) (s) (c) _ (hS.rdRo 4 rfl) (by first | omega | (simp; done)) (by first | omega | (simp; done))) ?_)
     clear hF; rintro _ w ⟨rfl, hS1⟩ a hF
     replace hS := hS.callB hS1 rfl; clear hS1
     have hz880 := readF_bd st L (rm) (s) (c)
     refine mvN hF rfl rfl rfl rfl rfl ?_; clear hF; intro a hF
     refine seq_yl hF (wn_none rfl) rfl rfl (yl_extract hF rfl rfl rfl) ?_; clear hF; intro a hF
     refine seq_yl hF (wn_none rfl) rfl rfl (yl_extract hF rfl rfl rfl) ?_; clear hF; intro a hF
     refine asN hF rfl rfl rfl rfl rfl ?_; clear hF; intro a hF
     refine asN hF rfl rfl rfl rfl rfl ?_; clear hF; intro a hF
     refine wpList_nil ?_
     refine then_n ?_
     refine c_seq ?_
     refine c_region ?_
     refine seq_yl hF (wn_none rfl) rfl rfl (yl_loadK (rs := [_, _, _]) (fun _ h => h ▸ hS) hF rfl rfl 3 rfl ag43 sz43 rfl rfl) ?_; clear hF; intro a hF
     refine mvN hF rfl rfl rfl rfl rfl ?_; clear hF; intro a hF
     refine seq_wp (wn_none rfl) (wp_store (cs' := #[_, _, _]) hF hS rfl rfl rfl rfl 1 rfl sz43 (by simp [Value.cells, Value.oneCell']) (by simp [Value.cells]) rfl ?_)
     clear hF hS; intro a w hF hS
     refine asN hF rfl rfl rfl rfl rfl ?_; clear hF; intro a hF
     refine asN hF rfl rfl rfl rfl rfl ?_; clear hF; intro a hF
     refine wpList_nil ?_
     refine then_n ?_
     refine wp_ret ?_
     refine inb_r ?_
     refine then_r ?_
     refine ret_ctt hF rfl (resC hS rfl 1 rfl ag43 sz43) rfl rfl ?_
     exact ⟨_, rfl, _, _, _, _, _, _, false, rfl, run_read hfit (by omega) (by omega), .inr (.inl ⟨rfl, rfl⟩), (hS.sub [] (by decide) (by first | rfl | simp) (by simp))⟩
    ·first | (replace hc879 := of_decide_eq_false hc879) | (replace hc879 := of_decide_eq_true (bnot_f hc879)) | (replace hc879 := bnot_f hc879) | skip
     try (have hc879x := hc879; simp only [okS, okI, okW, okP] at hc879x)
     refine c_seq ?_
     refine c_region ?_
     refine seq_yl hF (wn_none rfl) rfl rfl (yl_bin hF rfl rfl rfl rfl (fun _ => run_eql)) ?_; clear hF; intro a hF
     refine asN hF rfl rfl rfl rfl rfl ?_; clear hF; intro a hF
     refine wpList_nil ?_
     refine then_n ?_
     refine c_cond hF rfl (fun hc881 => ?_) (fun hc881 => ?_)
     ·first | (replace hc881 := of_decide_eq_true hc881) | (replace hc881 := of_decide_eq_false (bnot_t hc881)) | (replace hc881 := bnot_t hc881) | skip
      try (have hc881x := hc881; simp only [okS, okI, okW, okP] at hc881x)
      refine c_seq ?_
      refine c_region ?_
      refine seq_yl hF (wn_none rfl) rfl rfl (yl_loadK (rs := [_, _, _]) (fun _ h => h ▸ hS) hF rfl rfl 3 rfl ag43 sz43 rfl rfl) ?_; clear hF; intro a hF
      refine seq_yl hF (wn_none rfl) rfl rfl (yl_fieldAddr hF rfl rfl (fun w => by kernel_rfl : ∀ w, (Instr.fieldAt 45 (.pointer (some ⟨g752, 0, none⟩)) 2).run Try.prog w = .ok (.pointer (some ⟨g752, 2, none⟩)) w)) ?_; clear hF; intro a hF
      refine seq_yl hF (wn_none rfl) rfl rfl (yl_load (fun _ h => h ▸ hS) hF rfl rfl 2 rfl ag3 rfl) ?_; clear hF; intro a hF
      refine seq_yl hF (wn_none rfl) rfl rfl (yl_fieldAddr hF rfl rfl (fun w => by kernel_rfl : ∀ w, (Instr.fieldAt 45 (.pointer (some ⟨g752, 0, none⟩)) 4).run Try.prog w = .ok (.pointer (some ⟨g752, 4, none⟩)) w)) ?_; clear hF; intro a hF
      refine seq_yl hF (wn_none rfl) rfl rfl (yl_load (fun _ h => h ▸ hS) hF rfl rfl 2 rfl ag9 rfl) ?_; clear hF; intro a hF
      refine seq_yl hF (wn_none rfl) rfl rfl (yl_fieldAddr hF rfl rfl (fun w => by kernel_rfl : ∀ w, (Instr.fieldAt 45 (.pointer (some ⟨g752, 0, none⟩)) 5).run Try.prog w = .ok (.pointer (some ⟨g752, 5, none⟩)) w)) ?_; clear hF; intro a hF
      refine seq_yl hF (wn_none rfl) rfl rfl (yl_load (fun _ h => h ▸ hS) hF rfl rfl 2 rfl ag4 rfl) ?_; clear hF; intro a hF
      refine seq_wp (wn_none rfl) (wp_call (vs := [_, _, _, _]) hF rfl rfl rfl rfl cf48 (write2_any st _ L (rm) (s) x fua _ (hS.rdRo 4 rfl) (by first | omega | (simp; done)) (by first | omega | (simp; done)) (by first | omega | (simp; done))) ?_)
      clear hF; rintro _ w ⟨st882, v883, Lq884, rm885, b886, rfl, hq887, hS1⟩ a hF
      replace hS := hS.callB hS1 rfl; clear hS1
      obtain ⟨Av883, cv883, rfl⟩ := hS.form 0 rfl
      have hq887b := writeF_bd hq887
      refine mvN hF rfl rfl rfl rfl rfl ?_; clear hF; intro a hF
      refine seq_yl hF (wn_none rfl) rfl rfl (yl_extract hF rfl rfl rfl) ?_; clear hF; intro a hF
      refine seq_yl hF (wn_none rfl) rfl rfl (yl_extract hF rfl rfl rfl) ?_; clear hF; intro a hF
      refine seq_wp (wn_none rfl) (wp_store (cs' := #[_, _, _]) hF hS rfl rfl rfl rfl 4 rfl sz43 (by simp [Value.cells, Value.oneCell']) (by simp [Value.cells]) rfl ?_)
      clear hF hS; intro a w hF hS
      refine wpList_nil ?_
      refine then_n ?_
      refine c_seq ?_
      refine c_region ?_
      refine seq_yl hF (wn_none rfl) rfl rfl (yl_loadK (rs := [_, _, _]) (fun _ h => h ▸ hS) hF rfl rfl 4 rfl ag43 sz43 rfl rfl) ?_; clear hF; intro a hF
      refine seq_wp (wn_none rfl) (wp_store (cs' := #[_, _, _]) hF hS rfl rfl rfl rfl 2 rfl sz43 (by simp [Value.cells, Value.oneCell']) (by simp [Value.cells]) rfl ?_)
      clear hF hS; intro a w hF hS
      refine asN hF rfl rfl rfl rfl rfl ?_; clear hF; intro a hF
      refine asN hF rfl rfl rfl rfl rfl ?_; clear hF; intro a hF
      refine wpList_nil ?_
      refine then_n ?_
      refine wp_ret ?_
      refine inb_r ?_
      refine then_r ?_
      refine ret_ctt hF rfl (resC hS rfl 2 rfl ag43 sz43) rfl rfl ?_
      exact ⟨_, rfl, _, _, _, _, _, _, true, rfl, run_write hfit (by omega) (by omega) hq887, .inl rfl, (hS.sub [0] (by decide) (by first | rfl | simp) (by simp))⟩
     ·first | (replace hc881 := of_decide_eq_false hc881) | (replace hc881 := of_decide_eq_true (bnot_f hc881)) | (replace hc881 := bnot_f hc881) | skip
      try (have hc881x := hc881; simp only [okS, okI, okW, okP] at hc881x)
      refine wp_skip ?_
      refine inb_n ?_
      refine then_n ?_
      refine c_seq ?_
      refine c_region ?_
      refine seq_yl hF (wn_none rfl) rfl rfl (yl_loadK (rs := [_, _, _]) (fun _ h => h ▸ hS) hF rfl rfl 3 rfl ag43 sz43 rfl rfl) ?_; clear hF; intro a hF
      refine seq_wp (wn_none rfl) (wp_call (vs := [_]) hF rfl rfl rfl rfl cf49 (flush2_any st _ L (rm) _ (hS.rdRo 4 rfl) (by first | omega | (simp; done)) (by first | omega | (simp; done))) ?_)
      clear hF; rintro _ w ⟨st888, rm889, v890, rfl, hq891, hE892, hS1⟩ a hF
      replace hS := hS.callB hS1 rfl; clear hS1
      have hq891b := flushF_bd hq891; replace hS := hS.addRo (hE892.rd enc67 2 _); obtain ⟨Av890, cv890, rfl⟩ := (hE892.rd enc67 2 w).form
      refine seq_wp (wn_none rfl) (wp_store (cs' := #[_, _, _]) hF hS rfl rfl rfl rfl 2 rfl sz43 (by simp [Value.cells, Value.oneCell']) (by simp [Value.cells]) rfl ?_)
      clear hF hS; intro a w hF hS
      refine asN hF rfl rfl rfl rfl rfl ?_; clear hF; intro a hF
      refine asN hF rfl rfl rfl rfl rfl ?_; clear hF; intro a hF
      refine wpList_nil ?_
      refine then_n ?_
      refine wp_ret ?_
      refine ret_ctt hF rfl (resC hS rfl 2 rfl ag43 sz43) rfl rfl ?_
      exact ⟨_, rfl, _, _, _, _, _, _, false, rfl, run_flush hfit (by omega) (by omega) (by omega) hq891, .inr (.inr (hE892.rd enc67 2)), (hS.sub [] (by decide) (by first | rfl | simp) (by simp))⟩

end Go.Proofs.Ytkejcnhfbfgphaa

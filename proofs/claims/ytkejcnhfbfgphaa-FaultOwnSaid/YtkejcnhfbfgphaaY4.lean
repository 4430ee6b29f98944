/- walks, printed by wip/gen -/
import Derived.Test.YtkejcnhfbfgphaaY2
import Derived.Test.YtkejcnhfbfgphaaY3
import Derived.Test.YtkejcnhfbfgphaaX7
import Derived.Test.YtkejcnhfbfgphaaPG
import Derived.Test.YtkejcnhfbfgphaaW4
namespace Go.Proofs.Ytkejcnhfbfgphaa
open Go.RowKit
set_option linter.unusedVariables false
set_option linter.unusedSimpArgs false

set_option maxRecDepth 100000 in
theorem few_any (st : ByteArray) (lv : Value) (L : List E67) (rm : Int) (vr : Value) (R : List E37) (i0 k s c : Int) (x : ByteArray) (fua : Bool) (bg en er dn : Int) (hf : Bool) (dl : Int) (w0 : World) (hv : Rd w0 2 lv (L).length (cells enc67 (L))) (hu : Rd w0 9 vr (R).length (cells enc37 (R))) :
  Fn Try.prog 20 #[.agg #[.string st, lv, .int .i64 rm], vr, .agg #[.int .i64 i0, .int .i64 k, .int .i64 s, .int .i64 c, .string x, .bool fua, .int .i64 bg, .int .i64 en, .int .i64 er, .int .i64 dn, .bool hf, .int .i64 dl]] w0 (fun v w' => v = .bool (decide ((st.size : Int) ≤ 1200 ∧ (L.length : Int) ≤ 70 ∧ (R.length : Int) ≤ 20 ∧ (x.size : Int) ≤ 1200)) ∧ Sat w0 w' []) := by
 obtain ⟨Alv, clv, rfl⟩ := Rd.form hv
 obtain ⟨Avr, cvr, rfl⟩ := Rd.form hu
 refine c_enter (N := 28) (l := [_, _, _]) Try.func20 rfl rfl (fun a w hF hS => ?_)
 replace hS := hS.addRo hu
 replace hS := hS.addRo hv
 refine c_seq ?_
 refine c_region ?_
 refine seq_wp (wn_none rfl) (wp_box (cs := #[_, _, _]) hF hS rfl rfl rfl rfl rfl ?_)
 clear hF hS; intro a w g893 hF hS
 refine seq_wp (wn_none rfl) (wp_box (cs := #[_, _, _, _, _, _, _, _, _, _, _, _]) hF hS rfl rfl rfl rfl rfl ?_)
 clear hF hS; intro a w g894 hF hS
 refine asN hF rfl rfl rfl rfl rfl ?_; clear hF; intro a hF
 refine wpList_nil ?_
 refine then_n ?_
 refine c_seq ?_
 refine c_region ?_
 refine seq_yl hF (wn_none rfl) rfl rfl (yl_fieldAddr hF rfl rfl (fun w => by kernel_rfl : ∀ w, (Instr.fieldAt 43 (.pointer (some ⟨g893, 0, none⟩)) 0).run Try.prog w = .ok (.pointer (some ⟨g893, 0, none⟩)) w)) ?_; clear hF; intro a hF
 refine seq_yl hF (wn_none rfl) rfl rfl (yl_load (fun _ h => h ▸ hS) hF rfl rfl 1 rfl ag9 rfl) ?_; clear hF; intro a hF
 refine seq_yl hF (wn_none rfl) rfl rfl (yl_len hF rfl rfl (fun _ => run_lenStr Try.underlying9)) ?_; clear hF; intro a hF
 refine seq_yl hF (wn_none rfl) rfl rfl (yl_bin hF rfl rfl rfl rfl (fun _ => run_leq)) ?_; clear hF; intro a hF
 refine mvN hF rfl rfl rfl rfl rfl ?_; clear hF; intro a hF
 refine fr_split hF (fun hc895 hF => ?_) (fun hc895 hF => ?_)
 ·first | (replace hc895 := of_decide_eq_true hc895) | (replace hc895 := of_decide_eq_false (bnot_t hc895)) | (subst hc895) | (replace hc895 := bnot_t hc895; subst hc895) | (replace hc895 := bnot_t hc895) | skip
  try (have hc895x := hc895; simp only [okS, okI, okW, okP] at hc895x)
  refine seq_yl hF (wn_t hF rfl rfl rfl rfl) rfl rfl (yl_fieldAddr hF rfl rfl (fun w => by kernel_rfl : ∀ w, (Instr.fieldAt 43 (.pointer (some ⟨g893, 0, none⟩)) 1).run Try.prog w = .ok (.pointer (some ⟨g893, 1, none⟩)) w)) ?_; clear hF; intro a hF
  refine seq_yl hF (wn_t hF rfl rfl rfl rfl) rfl rfl (yl_load (fun _ h => h ▸ hS) hF rfl rfl 1 rfl ag41 rfl) ?_; clear hF; intro a hF
  refine seq_yl hF (wn_t hF rfl rfl rfl rfl) rfl rfl (yl_len hF rfl rfl (fun _ => run_lenRd sl41 (hS.rdRo 2 rfl))) ?_; clear hF; intro a hF
  refine seq_yl hF (wn_t hF rfl rfl rfl rfl) rfl rfl (yl_bin hF rfl rfl rfl rfl (fun _ => run_leq)) ?_; clear hF; intro a hF
  refine seq_yl hF (wn_none rfl) rfl rfl (pkT hF rfl rfl rfl) ?_; clear hF; intro a hF
  refine mvN hF rfl rfl rfl rfl rfl ?_; clear hF; intro a hF
  refine fr_split hF (fun hc896 hF => ?_) (fun hc896 hF => ?_)
  ·first | (replace hc896 := of_decide_eq_true hc896) | (replace hc896 := of_decide_eq_false (bnot_t hc896)) | (subst hc896) | (replace hc896 := bnot_t hc896; subst hc896) | (replace hc896 := bnot_t hc896) | skip
   try (have hc896x := hc896; simp only [okS, okI, okW, okP] at hc896x)
   refine seq_yl hF (wn_t hF rfl rfl rfl rfl) rfl rfl (yl_move hF rfl rfl) ?_; clear hF; intro a hF
   refine seq_yl hF (wn_t hF rfl rfl rfl rfl) rfl rfl (yl_len hF rfl rfl (fun _ => run_lenRd sl23 (hS.rdRo 3 rfl))) ?_; clear hF; intro a hF
   refine seq_yl hF (wn_t hF rfl rfl rfl rfl) rfl rfl (yl_bin hF rfl rfl rfl rfl (fun _ => run_leq)) ?_; clear hF; intro a hF
   refine seq_yl hF (wn_none rfl) rfl rfl (pkT hF rfl rfl rfl) ?_; clear hF; intro a hF
   refine mvN hF rfl rfl rfl rfl rfl ?_; clear hF; intro a hF
   refine fr_split hF (fun hc897 hF => ?_) (fun hc897 hF => ?_)
   ·first | (replace hc897 := of_decide_eq_true hc897) | (replace hc897 := of_decide_eq_false (bnot_t hc897)) | (subst hc897) | (replace hc897 := bnot_t hc897; subst hc897) | (replace hc897 := bnot_t hc897) | skip
    try (have hc897x := hc897; simp only [okS, okI, okW, okP] at hc897x)
    refine seq_yl hF (wn_t hF rfl rfl rfl rfl) rfl rfl (yl_fieldAddr hF rfl rfl (fun w => by kernel_rfl : ∀ w, (Instr.fieldAt 45 (.pointer (some ⟨g894, 0, none⟩)) 4).run Try.prog w = .ok (.pointer (some ⟨g894, 4, none⟩)) w)) ?_; clear hF; intro a hF
    refine seq_yl hF (wn_t hF rfl rfl rfl rfl) rfl rfl (yl_load (fun _ h => h ▸ hS) hF rfl rfl 0 rfl ag9 rfl) ?_; clear hF; intro a hF
    refine seq_yl hF (wn_t hF rfl rfl rfl rfl) rfl rfl (yl_len hF rfl rfl (fun _ => run_lenStr Try.underlying9)) ?_; clear hF; intro a hF
    refine seq_yl hF (wn_t hF rfl rfl rfl rfl) rfl rfl (yl_bin hF rfl rfl rfl rfl (fun _ => run_leq)) ?_; clear hF; intro a hF
    refine seq_yl hF (wn_none rfl) rfl rfl (pkT hF rfl rfl rfl) ?_; clear hF; intro a hF
    refine asN hF rfl rfl rfl rfl rfl ?_; clear hF; intro a hF
    refine wpList_nil ?_
    refine then_n ?_
    refine wp_ret ?_
    refine ret_t hF rfl rfl ?_
    exact ⟨_, rfl, congrArg Value.bool (dec_d (by constructor <;> intro _ <;> omega)), (hS.sub [] (by decide) (by first | rfl | simp) (by simp))⟩
   ·first | (replace hc897 := of_decide_eq_false hc897) | (replace hc897 := of_decide_eq_true (bnot_f hc897)) | (subst hc897) | (replace hc897 := bnot_f hc897; subst hc897) | (replace hc897 := bnot_f hc897) | skip
    try (have hc897x := hc897; simp only [okS, okI, okW, okP] at hc897x)
    refine skF hF rfl rfl rfl rfl rfl rfl ?_; clear hF; intro a hF
    refine skF hF rfl rfl rfl rfl rfl rfl ?_; clear hF; intro a hF
    refine skF hF rfl rfl rfl rfl rfl rfl ?_; clear hF; intro a hF
    refine skF hF rfl rfl rfl rfl rfl rfl ?_; clear hF; intro a hF
    refine seq_yl hF (wn_none rfl) rfl rfl (pkF hF rfl rfl rfl) ?_; clear hF; intro a hF
    refine asN hF rfl rfl rfl rfl rfl ?_; clear hF; intro a hF
    refine wpList_nil ?_
    refine then_n ?_
    refine wp_ret ?_
    refine ret_t hF rfl rfl ?_
    exact ⟨_, rfl, congrArg Value.bool (dec_f (by omega)), (hS.sub [] (by decide) (by first | rfl | simp) (by simp))⟩
  ·first | (replace hc896 := of_decide_eq_false hc896) | (replace hc896 := of_decide_eq_true (bnot_f hc896)) | (subst hc896) | (replace hc896 := bnot_f hc896; subst hc896) | (replace hc896 := bnot_f hc896) | skip
   try (have hc896x := hc896; simp only [okS, okI, okW, okP] at hc896x)
   refine skF hF rfl rfl rfl rfl rfl rfl ?_; clear hF; intro a hF
   refine skF hF rfl rfl rfl rfl rfl rfl ?_; clear hF; intro a hF
   refine skF hF rfl rfl rfl rfl rfl rfl ?_; clear hF; intro a hF
   refine seq_yl hF (wn_none rfl) rfl rfl (pkF hF rfl rfl rfl) ?_; clear hF; intro a hF
   refine mvN hF rfl rfl rfl rfl rfl ?_; clear hF; intro a hF
   refine skF hF rfl rfl rfl rfl rfl rfl ?_; clear hF; intro a hF
   refine skF hF rfl rfl rfl rfl rfl rfl ?_; clear hF; intro a hF
   refine skF hF rfl rfl rfl rfl rfl rfl ?_; clear hF; intro a hF
   refine skF hF rfl rfl rfl rfl rfl rfl ?_; clear hF; intro a hF
   refine seq_yl hF (wn_none rfl) rfl rfl (pkF hF rfl rfl rfl) ?_; clear hF; intro a hF
   refine asN hF rfl rfl rfl rfl rfl ?_; clear hF; intro a hF
   refine wpList_nil ?_
   refine then_n ?_
   refine wp_ret ?_
   refine ret_t hF rfl rfl ?_
   exact ⟨_, rfl, congrArg Value.bool (dec_f (by omega)), (hS.sub [] (by decide) (by first | rfl | simp) (by simp))⟩
 ·first | (replace hc895 := of_decide_eq_false hc895) | (replace hc895 := of_decide_eq_true (bnot_f hc895)) | (subst hc895) | (replace hc895 := bnot_f hc895; subst hc895) | (replace hc895 := bnot_f hc895) | skip
  try (have hc895x := hc895; simp only [okS, okI, okW, okP] at hc895x)
  refine skF hF rfl rfl rfl rfl rfl rfl ?_; clear hF; intro a hF
  refine skF hF rfl rfl rfl rfl rfl rfl ?_; clear hF; intro a hF
  refine skF hF rfl rfl rfl rfl rfl rfl ?_; clear hF; intro a hF
  refine skF hF rfl rfl rfl rfl rfl rfl ?_; clear hF; intro a hF
  refine seq_yl hF (wn_none rfl) rfl rfl (pkF hF rfl rfl rfl) ?_; clear hF; intro a hF
  refine mvN hF rfl rfl rfl rfl rfl ?_; clear hF; intro a hF
  refine skF hF rfl rfl rfl rfl rfl rfl ?_; clear hF; intro a hF
  refine skF hF rfl rfl rfl rfl rfl rfl ?_; clear hF; intro a hF
  refine skF hF rfl rfl rfl rfl rfl rfl ?_; clear hF; intro a hF
  refine seq_yl hF (wn_none rfl) rfl rfl (pkF hF rfl rfl rfl) ?_; clear hF; intro a hF
  refine mvN hF rfl rfl rfl rfl rfl ?_; clear hF; intro a hF
  refine skF hF rfl rfl rfl rfl rfl rfl ?_; clear hF; intro a hF
  refine skF hF rfl rfl rfl rfl rfl rfl ?_; clear hF; intro a hF
  refine skF hF rfl rfl rfl rfl rfl rfl ?_; clear hF; intro a hF
  refine skF hF rfl rfl rfl rfl rfl rfl ?_; clear hF; intro a hF
  refine seq_yl hF (wn_none rfl) rfl rfl (pkF hF rfl rfl rfl) ?_; clear hF; intro a hF
  refine asN hF rfl rfl rfl rfl rfl ?_; clear hF; intro a hF
  refine wpList_nil ?_
  refine then_n ?_
  refine wp_ret ?_
  refine ret_t hF rfl rfl ?_
  exact ⟨_, rfl, congrArg Value.bool (dec_f (by omega)), (hS.sub [] (by decide) (by first | rfl | simp) (by simp))⟩

set_option maxHeartbeats 1000000 in
set_option maxRecDepth 100000 in
theorem command_any (st : ByteArray) (lv : Value) (rm n : Int) (w0 : World) (h8 : 8 ≤ (st.size : Int)) (h48 : (st.size : Int) ≤ 48) :
  Fn Try.prog 29 #[.agg #[.string st, lv, .int .i64 rm], .int .i64 n] w0 (fun v w' => ∃ (k s c : Int) (x : ByteArray) (fua : Bool) (er dn : Int) (hf : Bool) (dl : Int), v = .agg #[.int .i64 0, .int .i64 k, .int .i64 s, .int .i64 c, .string x, .bool fua, .int .i64 0, .int .i64 0, .int .i64 er, .int .i64 dn, .bool hf, .int .i64 dl] ∧ ((0 ≤ s ∧ s ≤ 5) ∧ (0 ≤ c ∧ c ≤ 7) ∧ (x.size : Int) ≤ 64 ∧ (er = 0 ∨ er = 10 ∨ er = 11 ∨ er = 50)) ∧ Sat w0 w' []) := by
 have h0s : ((⟨#[]⟩ : ByteArray).size : Int) = 0 := rfl
 refine c_enter (N := 56) (l := [_, _]) Try.func29 rfl rfl (fun a w hF hS => ?_)
 refine c_seq ?_
 refine c_region ?_
 refine seq_wp (wn_none rfl) (wp_box (cs := #[_, _, _]) hF hS rfl rfl rfl rfl rfl ?_)
 clear hF hS; intro a w g898 hF hS
 refine seq_wp (wn_none rfl) (wp_alloc (cs := #[_, _, _, _, _, _, _, _, _, _, _, _]) hF hS rfl rfl rfl zr45 rfl ?_)
 clear hF hS; intro a w g899 hF hS
 refine wpList_nil ?_
 refine then_n ?_
 refine c_seq ?_
 refine c_region ?_
 refine mvN hF rfl rfl rfl rfl rfl ?_; clear hF; intro a hF
 have hr900 := rnd_any (n) (3 : Int)
 refine seq_wp (wn_none rfl) (wp_call (vs := [_, _]) hF rfl rfl rfl rfl cf13 (round_any (n) (3 : Int) _ (by omega)) ?_)
 clear hF; rintro _ w ⟨rfl, hS1⟩ a hF
 replace hS := hS.callB hS1 rfl; clear hS1
 refine seq_yl hF (wn_none rfl) rfl rfl (yl_bin hF rfl rfl rfl rfl (fun _ => run_add (by refine ⟨?_, ?_⟩ <;> omega))) ?_; clear hF; intro a hF
 refine mvN hF rfl rfl rfl rfl rfl ?_; clear hF; intro a hF
 refine seq_yl hF (wn_none rfl) rfl rfl (yl_bin hF rfl rfl rfl rfl (fun _ => run_shr (c := 20) (d := 1048576) (by decide) (by decide))) ?_; clear hF; intro a hF
 refine seq_wp (wn_none rfl) (wp_call (vs := [_]) hF rfl rfl rfl rfl cf19 (rule_any (((n) / 1048576)) _) ?_)
 clear hF; rintro _ w ⟨k901, f902, l903, s904, t905, er906, dn907, hf908, dl909, rfl, hb910, hb911, hb912, hb913, hb914, hb915, hb916, hb917, hS1⟩ a hF
 replace hS := hS.callB hS1 rfl; clear hS1
 refine seq_yl hF (wn_none rfl) rfl rfl (yl_field hF rfl rfl (fun w => by kernel_rfl : ∀ w, (Instr.field 37 (.agg #[.int .i64 (k901), .int .i64 (f902), .int .i64 (l903), .int .i64 (s904), .int .i64 (t905), .int .i64 (er906), .int .i64 (dn907), .bool hf908, .int .i64 (dl909)]) 5).run Try.prog w = .ok (.agg #[.int .i64 (er906), .int .i64 (dn907), .bool hf908, .int .i64 (dl909)]) w)) ?_; clear hF; intro a hF
 refine seq_yl hF (wn_none rfl) rfl rfl (yl_build (parts := [(1, .tmp 8), (8, .tmp 12)]) (vs := [(1, _), (8, _)]) (cs := [_, _, _, _, _, _, _, _, _, _, _, _]) hF bd45 rfl rfl rfl rfl) ?_; clear hF; intro a hF
 refine seq_wp (wn_none rfl) (wp_alloc (cs := #[_, _, _, _, _, _, _, _, _, _, _, _]) hF hS rfl rfl rfl zr45 rfl ?_)
 clear hF hS; intro a w g918 hF hS
 refine seq_wp (wn_none rfl) (wp_store (cs' := #[_, _, _, _, _, _, _, _, _, _, _, _]) hF hS rfl rfl rfl rfl 0 rfl sz45 (by simp [Value.cells, Value.oneCell']) (by simp [Value.cells]) rfl ?_)
 clear hF hS; intro a w hF hS
 refine wpList_nil ?_
 refine then_n ?_
 refine c_seq ?_
 refine c_seq ?_
 refine c_region ?_
 refine seq_yl hF (wn_none rfl) rfl rfl (yl_fieldAddr hF rfl rfl (fun w => by kernel_rfl : ∀ w, (Instr.fieldAt 45 (.pointer (some ⟨g918, 0, none⟩)) 1).run Try.prog w = .ok (.pointer (some ⟨g918, 1, none⟩)) w)) ?_; clear hF; intro a hF
 refine seq_yl hF (wn_none rfl) rfl rfl (yl_load (fun _ h => h ▸ hS) hF rfl rfl 0 rfl ag3 rfl) ?_; clear hF; intro a hF
 refine seq_yl hF (wn_none rfl) rfl rfl (yl_bin hF rfl rfl rfl rfl (fun _ => run_neq)) ?_; clear hF; intro a hF
 refine wpList_nil ?_
 refine then_n ?_
 refine c_cond hF rfl (fun hc919 => ?_) (fun hc919 => ?_)
 ·first | (replace hc919 := of_decide_eq_true hc919) | (replace hc919 := of_decide_eq_false (bnot_t hc919)) | (replace hc919 := bnot_t hc919) | skip
  try (have hc919x := hc919; simp only [okS, okI, okW, okP] at hc919x)
  refine c_seq ?_
  refine c_region ?_
  refine mvN hF rfl rfl rfl rfl rfl ?_; clear hF; intro a hF
  refine seq_yl hF (wn_none rfl) rfl rfl (yl_bin hF rfl rfl rfl rfl (fun _ => run_shr (c := 2) (d := 4) (by decide) (by decide))) ?_; clear hF; intro a hF
  refine seq_yl hF (wn_none rfl) rfl rfl (yl_loadK (rs := [_, _, _]) (fun _ h => h ▸ hS) hF rfl rfl 2 rfl ag43 sz43 rfl rfl) ?_; clear hF; intro a hF
  refine seq_wp (wn_none rfl) (wp_call (vs := [_]) hF rfl rfl rfl rfl cf30 (secs_any st _ _ _ (by omega)) ?_)
  clear hF; rintro _ w ⟨rfl, hS1⟩ a hF
  replace hS := hS.callB hS1 rfl; clear hS1
  have hr920 := rnd_any (((n) / 4)) ((((st).size : Int) / 8))
  refine seq_wp (wn_none rfl) (wp_call (vs := [_, _]) hF rfl rfl rfl rfl cf13 (round_any (((n) / 4)) ((((st).size : Int) / 8)) _ (by omega)) ?_)
  clear hF; rintro _ w ⟨rfl, hS1⟩ a hF
  replace hS := hS.callB hS1 rfl; clear hS1
  refine seq_yl hF (wn_none rfl) rfl rfl (yl_fieldAddr hF rfl rfl (fun w => by kernel_rfl : ∀ w, (Instr.fieldAt 45 (.pointer (some ⟨g918, 0, none⟩)) 2).run Try.prog w = .ok (.pointer (some ⟨g918, 2, none⟩)) w)) ?_; clear hF; intro a hF
  refine seq_wp (wn_none rfl) (wp_store (cs' := #[_, _, _, _, _, _, _, _, _, _, _, _]) hF hS rfl rfl rfl rfl 0 rfl sz3 (by simp [Value.cells, Value.oneCell']) (by simp [Value.cells]) rfl ?_)
  clear hF hS; intro a w hF hS
  refine wpList_nil ?_
  refine then_n ?_
  refine ha_startS hS [2, 0] 10 (by kernel_rfl) ?_; clear hS; intro w hS
  have hSS := hS.sub [2, 0] (by decide) rfl (by simp)
  refine ha_y 0 hF rfl rfl rfl (wn_none rfl) (.inr hSS) (yl_move hF rfl rfl) ?_; clear hF; intro a hF
  refine ha_y 1 hF rfl rfl rfl (wn_none rfl) (.inr hSS) (yl_bin hF rfl rfl rfl rfl (fun _ => run_shr (c := 5) (d := 32) (by decide) (by decide))) ?_; clear hF; intro a hF
  refine ha_y 4 hF rfl rfl rfl (wn_none rfl) (.inr hSS) (yl_fieldAddr hF rfl rfl (fun w => by kernel_rfl : ∀ w, (Instr.fieldAt 45 (.pointer (some ⟨g918, 0, none⟩)) 2).run Try.prog w = .ok (.pointer (some ⟨g918, 2, none⟩)) w)) ?_; clear hF; intro a hF
  refine ha_l 2 hF rfl rfl rfl (wn_none rfl) hSS (yl_loadK (rs := [_, _, _]) (fun _ h => h) hF rfl rfl 0 rfl ag43 sz43 rfl rfl) ?_; clear hF; intro a hF
  refine ha_l 5 hF rfl rfl rfl (wn_none rfl) hSS (yl_load (fun _ h => h) hF rfl rfl 1 rfl ag3 rfl) ?_; clear hF; intro a hF
  refine ha_one 3 (by kernel_rfl) rfl (wn_none rfl) (wp_call (vs := [_]) hF rfl rfl rfl rfl cf30 (secs_any st _ _ _ (by omega)) ?_)
  clear hF; rintro _ w ⟨rfl, hS1⟩ a hF
  replace hS := hS.callB hS1 rfl; clear hS1
  replace hSS := hS.sub [2, 0] (by decide) rfl (by simp)
  refine ⟨.inr hSS, ?_⟩
  refine ha_y 6 hF rfl rfl rfl (wn_none rfl) (.inr hSS) (yl_bin hF rfl rfl rfl rfl (fun _ => run_sub (by refine ⟨?_, ?_⟩ <;> omega))) ?_; clear hF; intro a hF
  have hr921 := rnd_any (((n) / 32)) ((((((st).size : Int) / 8)) - ((rnd (((n) / 4)) ((((st).size : Int) / 8))))))
  refine ha_one 7 (by kernel_rfl) rfl (wn_none rfl) (wp_call (vs := [_, _]) hF rfl rfl rfl rfl cf13 (round_any (((n) / 32)) ((((((st).size : Int) / 8)) - ((rnd (((n) / 4)) ((((st).size : Int) / 8)))))) _ (by omega)) ?_)
  clear hF; rintro _ w ⟨rfl, hS1⟩ a hF
  replace hS := hS.callB hS1 rfl; clear hS1
  replace hSS := hS.sub [2, 0] (by decide) rfl (by simp)
  refine ⟨.inr hSS, ?_⟩
  refine ha_y 8 hF rfl rfl rfl (wn_none rfl) (.inr hSS) (yl_bin hF rfl rfl rfl rfl (fun _ => run_add (by refine ⟨?_, ?_⟩ <;> omega))) ?_; clear hF; intro a hF
  refine ha_y 9 hF rfl rfl rfl (wn_none rfl) (.inr hSS) (yl_fieldAddr hF rfl rfl (fun w => by kernel_rfl : ∀ w, (Instr.fieldAt 45 (.pointer (some ⟨g918, 0, none⟩)) 3).run Try.prog w = .ok (.pointer (some ⟨g918, 3, none⟩)) w)) ?_; clear hF; intro a hF
  refine ha_one 10 (by kernel_rfl) rfl (wn_none rfl) (wp_store (cs' := #[_, _, _, _, _, _, _, _, _, _, _, _]) hF hS rfl rfl rfl rfl 0 rfl sz3 (by simp [Value.cells, Value.oneCell']) (by simp [Value.cells]) rfl ?_)
  clear hF hS; intro a w hF hS
  refine ⟨.inl (by kernel_rfl), ?_⟩
  refine ha_done (by kernel_rfl) ?_ _
  refine then_n ?_
  refine c_seq ?_
  refine c_seq ?_
  refine c_region ?_
  refine seq_yl hF (wn_none rfl) rfl rfl (yl_fieldAddr hF rfl rfl (fun w => by kernel_rfl : ∀ w, (Instr.fieldAt 45 (.pointer (some ⟨g918, 0, none⟩)) 1).run Try.prog w = .ok (.pointer (some ⟨g918, 1, none⟩)) w)) ?_; clear hF; intro a hF
  refine seq_yl hF (wn_none rfl) rfl rfl (yl_load (fun _ h => h ▸ hS) hF rfl rfl 0 rfl ag3 rfl) ?_; clear hF; intro a hF
  refine seq_yl hF (wn_none rfl) rfl rfl (yl_bin hF rfl rfl rfl rfl (fun _ => run_eql)) ?_; clear hF; intro a hF
  refine wpList_nil ?_
  refine then_n ?_
  refine c_cond hF rfl (fun hc922 => ?_) (fun hc922 => ?_)
  ·first | (replace hc922 := of_decide_eq_true hc922) | (replace hc922 := of_decide_eq_false (bnot_t hc922)) | (replace hc922 := bnot_t hc922) | skip
   try (have hc922x := hc922; simp only [okS, okI, okW, okP] at hc922x)
   refine c_region ?_
   refine mvN hF rfl rfl rfl rfl rfl ?_; clear hF; intro a hF
   refine seq_yl hF (wn_none rfl) rfl rfl (yl_bin hF rfl rfl rfl rfl (fun _ => run_shr (c := 8) (d := 256) (by decide) (by decide))) ?_; clear hF; intro a hF
   refine seq_yl hF (wn_none rfl) rfl rfl (yl_fieldAddr hF rfl rfl (fun w => by kernel_rfl : ∀ w, (Instr.fieldAt 45 (.pointer (some ⟨g918, 0, none⟩)) 3).run Try.prog w = .ok (.pointer (some ⟨g918, 3, none⟩)) w)) ?_; clear hF; intro a hF
   refine seq_yl hF (wn_none rfl) rfl rfl (yl_load (fun _ h => h ▸ hS) hF rfl rfl 0 rfl ag3 rfl) ?_; clear hF; intro a hF
   refine seq_wp (wn_none rfl) (wp_call (vs := [_, _]) hF rfl rfl rfl rfl cf57 (data_any (((n) / 256)) (((1 : Int) + ((rnd (((n) / 32)) ((((((st).size : Int) / 8)) - ((rnd (((n) / 4)) ((((st).size : Int) / 8)))))))))) _ (by omega)) ?_)
   clear hF; rintro _ w ⟨rfl, hS1⟩ a hF
   replace hS := hS.callB hS1 rfl; clear hS1
   have hz923 := dataF_size (((n) / 256)) (((1 : Int) + ((rnd (((n) / 32)) ((((((st).size : Int) / 8)) - ((rnd (((n) / 4)) ((((st).size : Int) / 8))))))))))
   refine mvN hF rfl rfl rfl rfl rfl ?_; clear hF; intro a hF
   refine seq_yl hF (wn_none rfl) rfl rfl (yl_bin hF rfl rfl rfl rfl (fun _ => run_shr (c := 14) (d := 16384) (by decide) (by decide))) ?_; clear hF; intro a hF
   have hr924 := rnd_any (((n) / 16384)) (3 : Int)
   refine seq_wp (wn_none rfl) (wp_call (vs := [_, _]) hF rfl rfl rfl rfl cf13 (round_any (((n) / 16384)) (3 : Int) _ (by omega)) ?_)
   clear hF; rintro _ w ⟨rfl, hS1⟩ a hF
   replace hS := hS.callB hS1 rfl; clear hS1
   refine seq_yl hF (wn_none rfl) rfl rfl (yl_bin hF rfl rfl rfl rfl (fun _ => run_eql)) ?_; clear hF; intro a hF
   refine seq_yl hF (wn_none rfl) rfl rfl (yl_fieldAddr hF rfl rfl (fun w => by kernel_rfl : ∀ w, (Instr.fieldAt 45 (.pointer (some ⟨g918, 0, none⟩)) 4).run Try.prog w = .ok (.pointer (some ⟨g918, 4, none⟩)) w)) ?_; clear hF; intro a hF
   refine seq_wp (wn_none rfl) (wp_store (cs' := #[_, _, _, _, _, _, _, _, _, _, _, _]) hF hS rfl rfl rfl rfl 0 rfl sz9 (by simp [Value.cells, Value.oneCell']) (by simp [Value.cells]) rfl ?_)
   clear hF hS; intro a w hF hS
   refine seq_yl hF (wn_none rfl) rfl rfl (yl_fieldAddr hF rfl rfl (fun w => by kernel_rfl : ∀ w, (Instr.fieldAt 45 (.pointer (some ⟨g918, 0, none⟩)) 5).run Try.prog w = .ok (.pointer (some ⟨g918, 5, none⟩)) w)) ?_; clear hF; intro a hF
   refine seq_wp (wn_none rfl) (wp_store (cs' := #[_, _, _, _, _, _, _, _, _, _, _, _]) hF hS rfl rfl rfl rfl 0 rfl sz4 (by simp [Value.cells, Value.oneCell']) (by simp [Value.cells]) rfl ?_)
   clear hF hS; intro a w hF hS
   refine wpList_nil ?_
   refine then_n ?_
   refine c_seq ?_
   refine c_seq ?_
   refine c_region ?_
   refine mvN hF rfl rfl rfl rfl rfl ?_; clear hF; intro a hF
   refine seq_yl hF (wn_none rfl) rfl rfl (yl_bin hF rfl rfl rfl rfl (fun _ => run_shr (c := 16) (d := 65536) (by decide) (by decide))) ?_; clear hF; intro a hF
   have hr925 := rnd_any (((n) / 65536)) (16 : Int)
   refine seq_wp (wn_none rfl) (wp_call (vs := [_, _]) hF rfl rfl rfl rfl cf13 (round_any (((n) / 65536)) (16 : Int) _ (by omega)) ?_)
   clear hF; rintro _ w ⟨rfl, hS1⟩ a hF
   replace hS := hS.callB hS1 rfl; clear hS1
   refine seq_yl hF (wn_none rfl) rfl rfl (yl_bin hF rfl rfl rfl rfl (fun _ => run_eql)) ?_; clear hF; intro a hF
   refine wpList_nil ?_
   refine then_n ?_
   refine c_cond hF rfl (fun hc926 => ?_) (fun hc926 => ?_)
   ·first | (replace hc926 := of_decide_eq_true hc926) | (replace hc926 := of_decide_eq_false (bnot_t hc926)) | (replace hc926 := bnot_t hc926) | skip
    try (have hc926x := hc926; simp only [okS, okI, okW, okP] at hc926x)
    refine c_region ?_
    refine seq_yl hF (wn_none rfl) rfl rfl (yl_fieldAddr hF rfl rfl (fun w => by kernel_rfl : ∀ w, (Instr.fieldAt 45 (.pointer (some ⟨g918, 0, none⟩)) 3).run Try.prog w = .ok (.pointer (some ⟨g918, 3, none⟩)) w)) ?_; clear hF; intro a hF
    refine seq_yl hF (wn_none rfl) rfl rfl (yl_load (fun _ h => h ▸ hS) hF rfl rfl 0 rfl ag3 rfl) ?_; clear hF; intro a hF
    refine seq_yl hF (wn_none rfl) rfl rfl (yl_bin hF rfl rfl rfl rfl (fun _ => run_add (by refine ⟨?_, ?_⟩ <;> omega))) ?_; clear hF; intro a hF
    refine seq_yl hF (wn_none rfl) rfl rfl (yl_fieldAddr hF rfl rfl (fun w => by kernel_rfl : ∀ w, (Instr.fieldAt 45 (.pointer (some ⟨g918, 0, none⟩)) 3).run Try.prog w = .ok (.pointer (some ⟨g918, 3, none⟩)) w)) ?_; clear hF; intro a hF
    refine seq_wp (wn_none rfl) (wp_store (cs' := #[_, _, _, _, _, _, _, _, _, _, _, _]) hF hS rfl rfl rfl rfl 0 rfl sz3 (by simp [Value.cells, Value.oneCell']) (by simp [Value.cells]) rfl ?_)
    clear hF hS; intro a w hF hS
    refine wpList_nil ?_
    refine then_n ?_
    refine c_seq ?_
    refine c_region ?_
    refine seq_yl hF (wn_none rfl) rfl rfl (yl_loadK (rs := [_, _, _, _, _, _, _, _, _, _, _, _]) (fun _ h => h ▸ hS) hF rfl rfl 0 rfl ag45 sz45 rfl rfl) ?_; clear hF; intro a hF
    refine seq_wp (wn_none rfl) (wp_store (cs' := #[_, _, _, _, _, _, _, _, _, _, _, _]) hF hS rfl rfl rfl rfl 1 rfl sz45 (by simp [Value.cells, Value.oneCell']) (by simp [Value.cells]) rfl ?_)
    clear hF hS; intro a w hF hS
    refine wpList_nil ?_
    refine then_n ?_
    refine wp_ret ?_
    refine ret_c hF rfl (resC hS rfl 1 rfl ag45 sz45) ?_
    exact ⟨_, rfl, _, _, _, _, _, _, _, _, _, rfl, by omega, (hS.sub [] (by decide) (by first | rfl | simp) (by simp))⟩
   ·first | (replace hc926 := of_decide_eq_false hc926) | (replace hc926 := of_decide_eq_true (bnot_f hc926)) | (replace hc926 := bnot_f hc926) | skip
    try (have hc926x := hc926; simp only [okS, okI, okW, okP] at hc926x)
    refine wp_skip ?_
    refine then_n ?_
    refine c_seq ?_
    refine c_region ?_
    refine seq_yl hF (wn_none rfl) rfl rfl (yl_loadK (rs := [_, _, _, _, _, _, _, _, _, _, _, _]) (fun _ h => h ▸ hS) hF rfl rfl 0 rfl ag45 sz45 rfl rfl) ?_; clear hF; intro a hF
    refine seq_wp (wn_none rfl) (wp_store (cs' := #[_, _, _, _, _, _, _, _, _, _, _, _]) hF hS rfl rfl rfl rfl 1 rfl sz45 (by simp [Value.cells, Value.oneCell']) (by simp [Value.cells]) rfl ?_)
    clear hF hS; intro a w hF hS
    refine wpList_nil ?_
    refine then_n ?_
    refine wp_ret ?_
    refine ret_c hF rfl (resC hS rfl 1 rfl ag45 sz45) ?_
    exact ⟨_, rfl, _, _, _, _, _, _, _, _, _, rfl, by omega, (hS.sub [] (by decide) (by first | rfl | simp) (by simp))⟩
  ·first | (replace hc922 := of_decide_eq_false hc922) | (replace hc922 := of_decide_eq_true (bnot_f hc922)) | (replace hc922 := bnot_f hc922) | skip
   try (have hc922x := hc922; simp only [okS, okI, okW, okP] at hc922x)
   refine wp_skip ?_
   refine then_n ?_
   refine c_seq ?_
   refine c_seq ?_
   refine c_region ?_
   refine mvN hF rfl rfl rfl rfl rfl ?_; clear hF; intro a hF
   refine seq_yl hF (wn_none rfl) rfl rfl (yl_bin hF rfl rfl rfl rfl (fun _ => run_shr (c := 16) (d := 65536) (by decide) (by decide))) ?_; clear hF; intro a hF
   have hr927 := rnd_any (((n) / 65536)) (16 : Int)
   refine seq_wp (wn_none rfl) (wp_call (vs := [_, _]) hF rfl rfl rfl rfl cf13 (round_any (((n) / 65536)) (16 : Int) _ (by omega)) ?_)
   clear hF; rintro _ w ⟨rfl, hS1⟩ a hF
   replace hS := hS.callB hS1 rfl; clear hS1
   refine seq_yl hF (wn_none rfl) rfl rfl (yl_bin hF rfl rfl rfl rfl (fun _ => run_eql)) ?_; clear hF; intro a hF
   refine wpList_nil ?_
   refine then_n ?_
   refine c_cond hF rfl (fun hc928 => ?_) (fun hc928 => ?_)
   ·first | (replace hc928 := of_decide_eq_true hc928) | (replace hc928 := of_decide_eq_false (bnot_t hc928)) | (replace hc928 := bnot_t hc928) | skip
    try (have hc928x := hc928; simp only [okS, okI, okW, okP] at hc928x)
    refine c_region ?_
    refine seq_yl hF (wn_none rfl) rfl rfl (yl_fieldAddr hF rfl rfl (fun w => by kernel_rfl : ∀ w, (Instr.fieldAt 45 (.pointer (some ⟨g918, 0, none⟩)) 3).run Try.prog w = .ok (.pointer (some ⟨g918, 3, none⟩)) w)) ?_; clear hF; intro a hF
    refine seq_yl hF (wn_none rfl) rfl rfl (yl_load (fun _ h => h ▸ hS) hF rfl rfl 0 rfl ag3 rfl) ?_; clear hF; intro a hF
    refine seq_yl hF (wn_none rfl) rfl rfl (yl_bin hF rfl rfl rfl rfl (fun _ => run_add (by refine ⟨?_, ?_⟩ <;> omega))) ?_; clear hF; intro a hF
    refine seq_yl hF (wn_none rfl) rfl rfl (yl_fieldAddr hF rfl rfl (fun w => by kernel_rfl : ∀ w, (Instr.fieldAt 45 (.pointer (some ⟨g918, 0, none⟩)) 3).run Try.prog w = .ok (.pointer (some ⟨g918, 3, none⟩)) w)) ?_; clear hF; intro a hF
    refine seq_wp (wn_none rfl) (wp_store (cs' := #[_, _, _, _, _, _, _, _, _, _, _, _]) hF hS rfl rfl rfl rfl 0 rfl sz3 (by simp [Value.cells, Value.oneCell']) (by simp [Value.cells]) rfl ?_)
    clear hF hS; intro a w hF hS
    refine wpList_nil ?_
    refine then_n ?_
    refine c_seq ?_
    refine c_region ?_
    refine seq_yl hF (wn_none rfl) rfl rfl (yl_loadK (rs := [_, _, _, _, _, _, _, _, _, _, _, _]) (fun _ h => h ▸ hS) hF rfl rfl 0 rfl ag45 sz45 rfl rfl) ?_; clear hF; intro a hF
    refine seq_wp (wn_none rfl) (wp_store (cs' := #[_, _, _, _, _, _, _, _, _, _, _, _]) hF hS rfl rfl rfl rfl 1 rfl sz45 (by simp [Value.cells, Value.oneCell']) (by simp [Value.cells]) rfl ?_)
    clear hF hS; intro a w hF hS
    refine wpList_nil ?_
    refine then_n ?_
    refine wp_ret ?_
    refine ret_c hF rfl (resC hS rfl 1 rfl ag45 sz45) ?_
    exact ⟨_, rfl, _, _, _, _, _, _, _, _, _, rfl, by omega, (hS.sub [] (by decide) (by first | rfl | simp) (by simp))⟩
   ·first | (replace hc928 := of_decide_eq_false hc928) | (replace hc928 := of_decide_eq_true (bnot_f hc928)) | (replace hc928 := bnot_f hc928) | skip
    try (have hc928x := hc928; simp only [okS, okI, okW, okP] at hc928x)
    refine wp_skip ?_
    refine then_n ?_
    refine c_seq ?_
    refine c_region ?_
    refine seq_yl hF (wn_none rfl) rfl rfl (yl_loadK (rs := [_, _, _, _, _, _, _, _, _, _, _, _]) (fun _ h => h ▸ hS) hF rfl rfl 0 rfl ag45 sz45 rfl rfl) ?_; clear hF; intro a hF
    refine seq_wp (wn_none rfl) (wp_store (cs' := #[_, _, _, _, _, _, _, _, _, _, _, _]) hF hS rfl rfl rfl rfl 1 rfl sz45 (by simp [Value.cells, Value.oneCell']) (by simp [Value.cells]) rfl ?_)
    clear hF hS; intro a w hF hS
    refine wpList_nil ?_
    refine then_n ?_
    refine wp_ret ?_
    refine ret_c hF rfl (resC hS rfl 1 rfl ag45 sz45) ?_
    exact ⟨_, rfl, _, _, _, _, _, _, _, _, _, rfl, by omega, (hS.sub [] (by decide) (by first | rfl | simp) (by simp))⟩
 ·first | (replace hc919 := of_decide_eq_false hc919) | (replace hc919 := of_decide_eq_true (bnot_f hc919)) | (replace hc919 := bnot_f hc919) | skip
  try (have hc919x := hc919; simp only [okS, okI, okW, okP] at hc919x)
  refine wp_skip ?_
  refine then_n ?_
  refine c_seq ?_
  refine c_seq ?_
  refine c_region ?_
  refine seq_yl hF (wn_none rfl) rfl rfl (yl_fieldAddr hF rfl rfl (fun w => by kernel_rfl : ∀ w, (Instr.fieldAt 45 (.pointer (some ⟨g918, 0, none⟩)) 1).run Try.prog w = .ok (.pointer (some ⟨g918, 1, none⟩)) w)) ?_; clear hF; intro a hF
  refine seq_yl hF (wn_none rfl) rfl rfl (yl_load (fun _ h => h ▸ hS) hF rfl rfl 0 rfl ag3 rfl) ?_; clear hF; intro a hF
  refine seq_yl hF (wn_none rfl) rfl rfl (yl_bin hF rfl rfl rfl rfl (fun _ => run_eql)) ?_; clear hF; intro a hF
  refine wpList_nil ?_
  refine then_n ?_
  refine c_cond hF rfl (fun hc929 => ?_) (fun hc929 => ?_)
  ·first | (replace hc929 := of_decide_eq_true hc929) | (replace hc929 := of_decide_eq_false (bnot_t hc929)) | (replace hc929 := bnot_t hc929) | skip
   try (have hc929x := hc929; simp only [okS, okI, okW, okP] at hc929x)
   refine c_region ?_
   refine mvN hF rfl rfl rfl rfl rfl ?_; clear hF; intro a hF
   refine seq_yl hF (wn_none rfl) rfl rfl (yl_bin hF rfl rfl rfl rfl (fun _ => run_shr (c := 8) (d := 256) (by decide) (by decide))) ?_; clear hF; intro a hF
   refine seq_yl hF (wn_none rfl) rfl rfl (yl_fieldAddr hF rfl rfl (fun w => by kernel_rfl : ∀ w, (Instr.fieldAt 45 (.pointer (some ⟨g918, 0, none⟩)) 3).run Try.prog w = .ok (.pointer (some ⟨g918, 3, none⟩)) w)) ?_; clear hF; intro a hF
   refine seq_yl hF (wn_none rfl) rfl rfl (yl_load (fun _ h => h ▸ hS) hF rfl rfl 0 rfl ag3 rfl) ?_; clear hF; intro a hF
   refine seq_wp (wn_none rfl) (wp_call (vs := [_, _]) hF rfl rfl rfl rfl cf57 (data_any (((n) / 256)) (0 : Int) _ (by omega)) ?_)
   clear hF; rintro _ w ⟨rfl, hS1⟩ a hF
   replace hS := hS.callB hS1 rfl; clear hS1
   have hz930 := dataF_size (((n) / 256)) (0 : Int)
   refine mvN hF rfl rfl rfl rfl rfl ?_; clear hF; intro a hF
   refine seq_yl hF (wn_none rfl) rfl rfl (yl_bin hF rfl rfl rfl rfl (fun _ => run_shr (c := 14) (d := 16384) (by decide) (by decide))) ?_; clear hF; intro a hF
   have hr931 := rnd_any (((n) / 16384)) (3 : Int)
   refine seq_wp (wn_none rfl) (wp_call (vs := [_, _]) hF rfl rfl rfl rfl cf13 (round_any (((n) / 16384)) (3 : Int) _ (by omega)) ?_)
   clear hF; rintro _ w ⟨rfl, hS1⟩ a hF
   replace hS := hS.callB hS1 rfl; clear hS1
   refine seq_yl hF (wn_none rfl) rfl rfl (yl_bin hF rfl rfl rfl rfl (fun _ => run_eql)) ?_; clear hF; intro a hF
   refine seq_yl hF (wn_none rfl) rfl rfl (yl_fieldAddr hF rfl rfl (fun w => by kernel_rfl : ∀ w, (Instr.fieldAt 45 (.pointer (some ⟨g918, 0, none⟩)) 4).run Try.prog w = .ok (.pointer (some ⟨g918, 4, none⟩)) w)) ?_; clear hF; intro a hF
   refine seq_wp (wn_none rfl) (wp_store (cs' := #[_, _, _, _, _, _, _, _, _, _, _, _]) hF hS rfl rfl rfl rfl 0 rfl sz9 (by simp [Value.cells, Value.oneCell']) (by simp [Value.cells]) rfl ?_)
   clear hF hS; intro a w hF hS
   refine seq_yl hF (wn_none rfl) rfl rfl (yl_fieldAddr hF rfl rfl (fun w => by kernel_rfl : ∀ w, (Instr.fieldAt 45 (.pointer (some ⟨g918, 0, none⟩)) 5).run Try.prog w = .ok (.pointer (some ⟨g918, 5, none⟩)) w)) ?_; clear hF; intro a hF
   refine seq_wp (wn_none rfl) (wp_store (cs' := #[_, _, _, _, _, _, _, _, _, _, _, _]) hF hS rfl rfl rfl rfl 0 rfl sz4 (by simp [Value.cells, Value.oneCell']) (by simp [Value.cells]) rfl ?_)
   clear hF hS; intro a w hF hS
   refine wpList_nil ?_
   refine then_n ?_
   refine c_seq ?_
   refine c_seq ?_
   refine c_region ?_
   refine mvN hF rfl rfl rfl rfl rfl ?_; clear hF; intro a hF
   refine seq_yl hF (wn_none rfl) rfl rfl (yl_bin hF rfl rfl rfl rfl (fun _ => run_shr (c := 16) (d := 65536) (by decide) (by decide))) ?_; clear hF; intro a hF
   have hr932 := rnd_any (((n) / 65536)) (16 : Int)
   refine seq_wp (wn_none rfl) (wp_call (vs := [_, _]) hF rfl rfl rfl rfl cf13 (round_any (((n) / 65536)) (16 : Int) _ (by omega)) ?_)
   clear hF; rintro _ w ⟨rfl, hS1⟩ a hF
   replace hS := hS.callB hS1 rfl; clear hS1
   refine seq_yl hF (wn_none rfl) rfl rfl (yl_bin hF rfl rfl rfl rfl (fun _ => run_eql)) ?_; clear hF; intro a hF
   refine wpList_nil ?_
   refine then_n ?_
   refine c_cond hF rfl (fun hc933 => ?_) (fun hc933 => ?_)
   ·first | (replace hc933 := of_decide_eq_true hc933) | (replace hc933 := of_decide_eq_false (bnot_t hc933)) | (replace hc933 := bnot_t hc933) | skip
    try (have hc933x := hc933; simp only [okS, okI, okW, okP] at hc933x)
    refine c_region ?_
    refine seq_yl hF (wn_none rfl) rfl rfl (yl_fieldAddr hF rfl rfl (fun w => by kernel_rfl : ∀ w, (Instr.fieldAt 45 (.pointer (some ⟨g918, 0, none⟩)) 3).run Try.prog w = .ok (.pointer (some ⟨g918, 3, none⟩)) w)) ?_; clear hF; intro a hF
    refine seq_yl hF (wn_none rfl) rfl rfl (yl_load (fun _ h => h ▸ hS) hF rfl rfl 0 rfl ag3 rfl) ?_; clear hF; intro a hF
    refine seq_yl hF (wn_none rfl) rfl rfl (yl_bin hF rfl rfl rfl rfl (fun _ => run_add (by refine ⟨?_, ?_⟩ <;> omega))) ?_; clear hF; intro a hF
    refine seq_yl hF (wn_none rfl) rfl rfl (yl_fieldAddr hF rfl rfl (fun w => by kernel_rfl : ∀ w, (Instr.fieldAt 45 (.pointer (some ⟨g918, 0, none⟩)) 3).run Try.prog w = .ok (.pointer (some ⟨g918, 3, none⟩)) w)) ?_; clear hF; intro a hF
    refine seq_wp (wn_none rfl) (wp_store (cs' := #[_, _, _, _, _, _, _, _, _, _, _, _]) hF hS rfl rfl rfl rfl 0 rfl sz3 (by simp [Value.cells, Value.oneCell']) (by simp [Value.cells]) rfl ?_)
    clear hF hS; intro a w hF hS
    refine wpList_nil ?_
    refine then_n ?_
    refine c_seq ?_
    refine c_region ?_
    refine seq_yl hF (wn_none rfl) rfl rfl (yl_loadK (rs := [_, _, _, _, _, _, _, _, _, _, _, _]) (fun _ h => h ▸ hS) hF rfl rfl 0 rfl ag45 sz45 rfl rfl) ?_; clear hF; intro a hF
    refine seq_wp (wn_none rfl) (wp_store (cs' := #[_, _, _, _, _, _, _, _, _, _, _, _]) hF hS rfl rfl rfl rfl 1 rfl sz45 (by simp [Value.cells, Value.oneCell']) (by simp [Value.cells]) rfl ?_)
    clear hF hS; intro a w hF hS
    refine wpList_nil ?_
    refine then_n ?_
    refine wp_ret ?_
    refine ret_c hF rfl (resC hS rfl 1 rfl ag45 sz45) ?_
    exact ⟨_, rfl, _, _, _, _, _, _, _, _, _, rfl, by omega, (hS.sub [] (by decide) (by first | rfl | simp) (by simp))⟩
   ·first | (replace hc933 := of_decide_eq_false hc933) | (replace hc933 := of_decide_eq_true (bnot_f hc933)) | (replace hc933 := bnot_f hc933) | skip
    try (have hc933x := hc933; simp only [okS, okI, okW, okP] at hc933x)
    refine wp_skip ?_
    refine then_n ?_
    refine c_seq ?_
    refine c_region ?_
    refine seq_yl hF (wn_none rfl) rfl rfl (yl_loadK (rs := [_, _, _, _, _, _, _, _, _, _, _, _]) (fun _ h => h ▸ hS) hF rfl rfl 0 rfl ag45 sz45 rfl rfl) ?_; clear hF; intro a hF
    refine seq_wp (wn_none rfl) (wp_store (cs' := #[_, _, _, _, _, _, _, _, _, _, _, _]) hF hS rfl rfl rfl rfl 1 rfl sz45 (by simp [Value.cells, Value.oneCell']) (by simp [Value.cells]) rfl ?_)
    clear hF hS; intro a w hF hS
    refine wpList_nil ?_
    refine then_n ?_
    refine wp_ret ?_
    refine ret_c hF rfl (resC hS rfl 1 rfl ag45 sz45) ?_
    exact ⟨_, rfl, _, _, _, _, _, _, _, _, _, rfl, by omega, (hS.sub [] (by decide) (by first | rfl | simp) (by simp))⟩
  ·first | (replace hc929 := of_decide_eq_false hc929) | (replace hc929 := of_decide_eq_true (bnot_f hc929)) | (replace hc929 := bnot_f hc929) | skip
   try (have hc929x := hc929; simp only [okS, okI, okW, okP] at hc929x)
   refine wp_skip ?_
   refine then_n ?_
   refine c_seq ?_
   refine c_seq ?_
   refine c_region ?_
   refine mvN hF rfl rfl rfl rfl rfl ?_; clear hF; intro a hF
   refine seq_yl hF (wn_none rfl) rfl rfl (yl_bin hF rfl rfl rfl rfl (fun _ => run_shr (c := 16) (d := 65536) (by decide) (by decide))) ?_; clear hF; intro a hF
   have hr934 := rnd_any (((n) / 65536)) (16 : Int)
   refine seq_wp (wn_none rfl) (wp_call (vs := [_, _]) hF rfl rfl rfl rfl cf13 (round_any (((n) / 65536)) (16 : Int) _ (by omega)) ?_)
   clear hF; rintro _ w ⟨rfl, hS1⟩ a hF
   replace hS := hS.callB hS1 rfl; clear hS1
   refine seq_yl hF (wn_none rfl) rfl rfl (yl_bin hF rfl rfl rfl rfl (fun _ => run_eql)) ?_; clear hF; intro a hF
   refine wpList_nil ?_
   refine then_n ?_
   refine c_cond hF rfl (fun hc935 => ?_) (fun hc935 => ?_)
   ·first | (replace hc935 := of_decide_eq_true hc935) | (replace hc935 := of_decide_eq_false (bnot_t hc935)) | (replace hc935 := bnot_t hc935) | skip
    try (have hc935x := hc935; simp only [okS, okI, okW, okP] at hc935x)
    refine c_region ?_
    refine seq_yl hF (wn_none rfl) rfl rfl (yl_fieldAddr hF rfl rfl (fun w => by kernel_rfl : ∀ w, (Instr.fieldAt 45 (.pointer (some ⟨g918, 0, none⟩)) 3).run Try.prog w = .ok (.pointer (some ⟨g918, 3, none⟩)) w)) ?_; clear hF; intro a hF
    refine seq_yl hF (wn_none rfl) rfl rfl (yl_load (fun _ h => h ▸ hS) hF rfl rfl 0 rfl ag3 rfl) ?_; clear hF; intro a hF
    refine seq_yl hF (wn_none rfl) rfl rfl (yl_bin hF rfl rfl rfl rfl (fun _ => run_add (by refine ⟨?_, ?_⟩ <;> omega))) ?_; clear hF; intro a hF
    refine seq_yl hF (wn_none rfl) rfl rfl (yl_fieldAddr hF rfl rfl (fun w => by kernel_rfl : ∀ w, (Instr.fieldAt 45 (.pointer (some ⟨g918, 0, none⟩)) 3).run Try.prog w = .ok (.pointer (some ⟨g918, 3, none⟩)) w)) ?_; clear hF; intro a hF
    refine seq_wp (wn_none rfl) (wp_store (cs' := #[_, _, _, _, _, _, _, _, _, _, _, _]) hF hS rfl rfl rfl rfl 0 rfl sz3 (by simp [Value.cells, Value.oneCell']) (by simp [Value.cells]) rfl ?_)
    clear hF hS; intro a w hF hS
    refine wpList_nil ?_
    refine then_n ?_
    refine c_seq ?_
    refine c_region ?_
    refine seq_yl hF (wn_none rfl) rfl rfl (yl_loadK (rs := [_, _, _, _, _, _, _, _, _, _, _, _]) (fun _ h => h ▸ hS) hF rfl rfl 0 rfl ag45 sz45 rfl rfl) ?_; clear hF; intro a hF
    refine seq_wp (wn_none rfl) (wp_store (cs' := #[_, _, _, _, _, _, _, _, _, _, _, _]) hF hS rfl rfl rfl rfl 1 rfl sz45 (by simp [Value.cells, Value.oneCell']) (by simp [Value.cells]) rfl ?_)
    clear hF hS; intro a w hF hS
    refine wpList_nil ?_
    refine then_n ?_
    refine wp_ret ?_
    refine ret_c hF rfl (resC hS rfl 1 rfl ag45 sz45) ?_
    exact ⟨_, rfl, _, _, _, _, _, _, _, _, _, rfl, by omega, (hS.sub [] (by decide) (by first | rfl | simp) (by simp))⟩
   ·first | (replace hc935 := of_decide_eq_false hc935) | (replace hc935 := of_decide_eq_true (bnot_f hc935)) | (replace hc935 := bnot_f hc935) | skip
    try (have hc935x := hc935; simp only [okS, okI, okW, okP] at hc935x)
    refine wp_skip ?_
    refine then_n ?_
    refine c_seq ?_
    refine c_region ?_
    refine seq_yl hF (wn_none rfl) rfl rfl (yl_loadK (rs := [_, _, _, _, _, _, _, _, _, _, _, _]) (fun _ h => h ▸ hS) hF rfl rfl 0 rfl ag45 sz45 rfl rfl) ?_; clear hF; intro a hF
    refine seq_wp (wn_none rfl) (wp_store (cs' := #[_, _, _, _, _, _, _, _, _, _, _, _]) hF hS rfl rfl rfl rfl 1 rfl sz45 (by simp [Value.cells, Value.oneCell']) (by simp [Value.cells]) rfl ?_)
    clear hF hS; intro a w hF hS
    refine wpList_nil ?_
    refine then_n ?_
    refine wp_ret ?_
    refine ret_c hF rfl (resC hS rfl 1 rfl ag45 sz45) ?_
    exact ⟨_, rfl, _, _, _, _, _, _, _, _, _, rfl, by omega, (hS.sub [] (by decide) (by first | rfl | simp) (by simp))⟩

end Go.Proofs.Ytkejcnhfbfgphaa

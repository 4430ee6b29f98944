/- walks, printed by wip/gen -/
import Derived.Test.YtkejcnhfbfgphaaX3
import Derived.Test.YtkejcnhfbfgphaaXB
import Derived.Test.YtkejcnhfbfgphaaPF
namespace Go.Proofs.Ytkejcnhfbfgphaa
open Go.RowKit
set_option linter.unusedVariables false
set_option linter.unusedSimpArgs false

set_option maxHeartbeats 1000000 in
set_option maxRecDepth 100000 in
theorem fits_any (st : ByteArray) (lv : Value) (L : List E67) (rm : Int) (i0 k s c : Int) (x : ByteArray) (fua : Bool) (bg en er dn : Int) (hf : Bool) (dl : Int) (w0 : World) (hv : Rd w0 2 lv (L).length (cells enc67 (L))) (hz : (st.size : Int) ≤ 9223372036854775807) (hL : L.length ≤ 1000000) (hx : (x.size : Int) ≤ 9223372036854775807) :
  Fn Try.prog 39 #[.agg #[.string st, lv, .int .i64 rm], .agg #[.int .i64 i0, .int .i64 k, .int .i64 s, .int .i64 c, .string x, .bool fua, .int .i64 bg, .int .i64 en, .int .i64 er, .int .i64 dn, .bool hf, .int .i64 dl]] w0 (fun v w' => v = .bool (decide (fitsP st L rm k s c x)) ∧ Sat w0 w' []) := by
 obtain ⟨Alv, clv, rfl⟩ := Rd.form hv
 refine c_enter (N := 47) (l := [_, _]) Try.func39 rfl rfl (fun a w hF hS => ?_)
 replace hS := hS.addRo hv
 refine c_seq ?_
 refine c_region ?_
 refine seq_wp (wn_none rfl) (wp_box (cs := #[_, _, _]) hF hS rfl rfl rfl rfl rfl ?_)
 clear hF hS; intro a w g659 hF hS
 refine seq_wp (wn_none rfl) (wp_box (cs := #[_, _, _, _, _, _, _, _, _, _, _, _]) hF hS rfl rfl rfl rfl rfl ?_)
 clear hF hS; intro a w g660 hF hS
 refine asN hF rfl rfl rfl rfl rfl ?_; clear hF; intro a hF
 refine wpList_nil ?_
 refine then_n ?_
 refine c_seq ?_
 refine c_seq ?_
 refine c_region ?_
 refine seq_yl hF (wn_none rfl) rfl rfl (yl_loadK (rs := [_, _, _]) (fun _ h => h ▸ hS) hF rfl rfl 1 rfl ag43 sz43 rfl rfl) ?_; clear hF; intro a hF
 refine seq_wp (wn_none rfl) (wp_call (vs := [_]) hF rfl rfl rfl rfl cf60 (dValid_any st _ L (rm) _ (hS.rdRo 2 rfl) (by first | omega | (simp; done)) (by first | omega | (simp; done))) ?_)
 clear hF; rintro _ w ⟨rfl, hS1⟩ a hF
 replace hS := hS.callB hS1 rfl; clear hS1
 refine seq_yl hF (wn_none rfl) rfl rfl (yl_un hF rfl rfl (fun _ => run_not)) ?_; clear hF; intro a hF
 refine wpList_nil ?_
 refine then_n ?_
 refine c_cond hF rfl (fun hc661 => ?_) (fun hc661 => ?_)
 ·first | (replace hc661 := of_decide_eq_true hc661) | (replace hc661 := of_decide_eq_false (bnot_t hc661)) | (replace hc661 := bnot_t hc661) | skip
  try (have hc661x := hc661; simp only [okS, okI, okW, okP] at hc661x)
  refine c_seq ?_
  refine c_region ?_
  refine asN hF rfl rfl rfl rfl rfl ?_; clear hF; intro a hF
  refine wpList_nil ?_
  refine then_n ?_
  refine wp_ret ?_
  refine then_r ?_
  refine ret_t hF rfl rfl ?_
  exact ⟨_, rfl, congrArg Value.bool (dec_f (fun h9 => by obtain ⟨h7, h8⟩ := h9; simp only [okS, okI] at h8; first | exact absurd h7 (by assumption) | omega)), (hS.sub [] (by decide) (by first | rfl | simp) (by simp))⟩
 ·first | (replace hc661 := of_decide_eq_false hc661) | (replace hc661 := of_decide_eq_true (bnot_f hc661)) | (replace hc661 := bnot_f hc661) | skip
  try (have hc661x := hc661; simp only [okS, okI, okW, okP] at hc661x)
  refine wp_skip ?_
  refine then_n ?_
  refine c_seq ?_
  refine c_seq ?_
  refine c_region ?_
  refine seq_yl hF (wn_none rfl) rfl rfl (yl_fieldAddr hF rfl rfl (fun w => by kernel_rfl : ∀ w, (Instr.fieldAt 45 (.pointer (some ⟨g660, 0, none⟩)) 1).run Try.prog w = .ok (.pointer (some ⟨g660, 1, none⟩)) w)) ?_; clear hF; intro a hF
  refine seq_yl hF (wn_none rfl) rfl rfl (yl_load (fun _ h => h ▸ hS) hF rfl rfl 0 rfl ag3 rfl) ?_; clear hF; intro a hF
  refine seq_yl hF (wn_none rfl) rfl rfl (yl_bin hF rfl rfl rfl rfl (fun _ => run_eql)) ?_; clear hF; intro a hF
  refine wpList_nil ?_
  refine then_n ?_
  refine c_cond hF rfl (fun hc662 => ?_) (fun hc662 => ?_)
  ·first | (replace hc662 := of_decide_eq_true hc662) | (replace hc662 := of_decide_eq_false (bnot_t hc662)) | (replace hc662 := bnot_t hc662) | skip
   try (have hc662x := hc662; simp only [okS, okI, okW, okP] at hc662x)
   refine c_seq ?_
   refine c_region ?_
   refine seq_yl hF (wn_none rfl) rfl rfl (yl_fieldAddr hF rfl rfl (fun w => by kernel_rfl : ∀ w, (Instr.fieldAt 45 (.pointer (some ⟨g660, 0, none⟩)) 4).run Try.prog w = .ok (.pointer (some ⟨g660, 4, none⟩)) w)) ?_; clear hF; intro a hF
   refine seq_yl hF (wn_none rfl) rfl rfl (yl_load (fun _ h => h ▸ hS) hF rfl rfl 0 rfl ag9 rfl) ?_; clear hF; intro a hF
   refine seq_yl hF (wn_none rfl) rfl rfl (yl_bin hF rfl rfl rfl rfl (fun _ => run_str_eql)) ?_; clear hF; intro a hF
   refine asN hF rfl rfl rfl rfl rfl ?_; clear hF; intro a hF
   refine wpList_nil ?_
   refine then_n ?_
   refine wp_ret ?_
   refine then_r ?_
   refine ret_t hF rfl rfl ?_
   exact ⟨_, rfl, congrArg Value.bool (dec_d (by (try rw [empty_iff]); constructor <;> intro h9 <;> first | exact ⟨by assumption, by first | omega | (simp only [okS, okI]; omega)⟩ | (obtain ⟨h7, h8⟩ := h9; simp only [okS, okI] at h8; omega))), (hS.sub [] (by decide) (by first | rfl | simp) (by simp))⟩
  ·first | (replace hc662 := of_decide_eq_false hc662) | (replace hc662 := of_decide_eq_true (bnot_f hc662)) | (replace hc662 := bnot_f hc662) | skip
   try (have hc662x := hc662; simp only [okS, okI, okW, okP] at hc662x)
   refine wp_skip ?_
   refine then_n ?_
   refine c_seq ?_
   refine c_region ?_
   refine seq_yl hF (wn_none rfl) rfl rfl (yl_loadK (rs := [_, _, _]) (fun _ h => h ▸ hS) hF rfl rfl 1 rfl ag43 sz43 rfl rfl) ?_; clear hF; intro a hF
   refine seq_yl hF (wn_none rfl) rfl rfl (yl_fieldAddr hF rfl rfl (fun w => by kernel_rfl : ∀ w, (Instr.fieldAt 45 (.pointer (some ⟨g660, 0, none⟩)) 2).run Try.prog w = .ok (.pointer (some ⟨g660, 2, none⟩)) w)) ?_; clear hF; intro a hF
   refine seq_yl hF (wn_none rfl) rfl rfl (yl_load (fun _ h => h ▸ hS) hF rfl rfl 0 rfl ag3 rfl) ?_; clear hF; intro a hF
   refine seq_yl hF (wn_none rfl) rfl rfl (yl_fieldAddr hF rfl rfl (fun w => by kernel_rfl : ∀ w, (Instr.fieldAt 45 (.pointer (some ⟨g660, 0, none⟩)) 3).run Try.prog w = .ok (.pointer (some ⟨g660, 3, none⟩)) w)) ?_; clear hF; intro a hF
   refine seq_yl hF (wn_none rfl) rfl rfl (yl_load (fun _ h => h ▸ hS) hF rfl rfl 0 rfl ag3 rfl) ?_; clear hF; intro a hF
   refine seq_wp (wn_none rfl) (wp_call (vs := [_, _, _]) hF rfl rfl rfl rfl cf41 (read_any st _ L (rm) (s) (c) _ (hS.rdRo 2 rfl) (by first | omega | (simp; done)) (by first | omega | (simp; done))) ?_)
   clear hF; rintro _ w ⟨rfl, hS1⟩ a hF
   replace hS := hS.callB hS1 rfl; clear hS1
   have hz663 := readF_bd st L (rm) (s) (c)
   have hrd : (readF st L rm s c).2 = decide (okS (st.size : Int) s c) := by unfold readF; by_cases h9 : okS (st.size : Int) s c; rw [if_pos ⟨(‹okD st L rm› : okD st L rm), h9⟩, decide_eq_true h9]; rw [if_neg (fun h => h9 h.2), decide_eq_false h9]
   rw [hrd] at hF
   refine mvN hF rfl rfl rfl rfl rfl ?_; clear hF; intro a hF
   refine seq_yl hF (wn_none rfl) rfl rfl (yl_extract hF rfl rfl rfl) ?_; clear hF; intro a hF
   refine seq_yl hF (wn_none rfl) rfl rfl (yl_extract hF rfl rfl rfl) ?_; clear hF; intro a hF
   refine asN hF rfl rfl rfl rfl rfl ?_; clear hF; intro a hF
   refine asN hF rfl rfl rfl rfl rfl ?_; clear hF; intro a hF
   refine wpList_nil ?_
   refine then_n ?_
   refine c_seq ?_
   refine c_seq ?_
   refine c_region ?_
   refine seq_yl hF (wn_none rfl) rfl rfl (yl_fieldAddr hF rfl rfl (fun w => by kernel_rfl : ∀ w, (Instr.fieldAt 45 (.pointer (some ⟨g660, 0, none⟩)) 1).run Try.prog w = .ok (.pointer (some ⟨g660, 1, none⟩)) w)) ?_; clear hF; intro a hF
   refine seq_yl hF (wn_none rfl) rfl rfl (yl_load (fun _ h => h ▸ hS) hF rfl rfl 0 rfl ag3 rfl) ?_; clear hF; intro a hF
   refine wpList_nil ?_
   refine then_n ?_
   refine wp_block ?_
   refine c_seq ?_
   refine c_region ?_
   refine seq_yl hF (wn_none rfl) rfl rfl (yl_bin hF rfl rfl rfl rfl (fun _ => run_eql)) ?_; clear hF; intro a hF
   refine asN hF rfl rfl rfl rfl rfl ?_; clear hF; intro a hF
   refine wpList_nil ?_
   refine then_n ?_
   refine c_cond hF rfl (fun hc664 => ?_) (fun hc664 => ?_)
   ·first | (replace hc664 := of_decide_eq_true hc664) | (replace hc664 := of_decide_eq_false (bnot_t hc664)) | (replace hc664 := bnot_t hc664) | skip
    try (have hc664x := hc664; simp only [okS, okI, okW, okP] at hc664x)
    refine c_seq ?_
    refine c_region ?_
    refine mvN hF rfl rfl rfl rfl rfl ?_; clear hF; intro a hF
    refine mvN hF rfl rfl rfl rfl rfl ?_; clear hF; intro a hF
    refine fr_split hF (fun hc665 hF => ?_) (fun hc665 hF => ?_)
    ·first | (replace hc665 := of_decide_eq_true hc665) | (replace hc665 := of_decide_eq_false (bnot_t hc665)) | (replace hc665 := bnot_t hc665) | skip
     try (have hc665x := hc665; simp only [okS, okI, okW, okP] at hc665x)
     refine seq_yl hF (wn_t hF rfl rfl rfl rfl) rfl rfl (yl_fieldAddr hF rfl rfl (fun w => by kernel_rfl : ∀ w, (Instr.fieldAt 45 (.pointer (some ⟨g660, 0, none⟩)) 4).run Try.prog w = .ok (.pointer (some ⟨g660, 4, none⟩)) w)) ?_; clear hF; intro a hF
     refine seq_yl hF (wn_t hF rfl rfl rfl rfl) rfl rfl (yl_load (fun _ h => h ▸ hS) hF rfl rfl 0 rfl ag9 rfl) ?_; clear hF; intro a hF
     refine seq_yl hF (wn_t hF rfl rfl rfl rfl) rfl rfl (yl_bin hF rfl rfl rfl rfl (fun _ => run_str_eql)) ?_; clear hF; intro a hF
     refine seq_yl hF (wn_none rfl) rfl rfl (pkT hF rfl rfl rfl) ?_; clear hF; intro a hF
     refine asN hF rfl rfl rfl rfl rfl ?_; clear hF; intro a hF
     refine wpList_nil ?_
     refine then_n ?_
     refine wp_ret ?_
     refine inb_r ?_
     refine then_r ?_
     refine ret_t hF rfl rfl ?_
     exact ⟨_, rfl, congrArg Value.bool (dec_d (by (try rw [empty_iff]); constructor <;> intro h9 <;> first | exact ⟨by assumption, by first | omega | (simp only [okS, okI]; omega)⟩ | (obtain ⟨h7, h8⟩ := h9; simp only [okS, okI] at h8; omega))), (hS.sub [] (by decide) (by first | rfl | simp) (by simp))⟩
    ·first | (replace hc665 := of_decide_eq_false hc665) | (replace hc665 := of_decide_eq_true (bnot_f hc665)) | (replace hc665 := bnot_f hc665) | skip
     try (have hc665x := hc665; simp only [okS, okI, okW, okP] at hc665x)
     refine skF hF rfl rfl rfl rfl rfl rfl ?_; clear hF; intro a hF
     refine skF hF rfl rfl rfl rfl rfl rfl ?_; clear hF; intro a hF
     refine skF hF rfl rfl rfl rfl rfl rfl ?_; clear hF; intro a hF
     refine seq_yl hF (wn_none rfl) rfl rfl (pkF hF rfl rfl rfl) ?_; clear hF; intro a hF
     refine asN hF rfl rfl rfl rfl rfl ?_; clear hF; intro a hF
     refine wpList_nil ?_
     refine then_n ?_
     refine wp_ret ?_
     refine inb_r ?_
     refine then_r ?_
     refine ret_t hF rfl rfl ?_
     exact ⟨_, rfl, congrArg Value.bool (dec_f (fun h9 => by obtain ⟨h7, h8⟩ := h9; simp only [okS, okI] at h8; first | exact absurd h7 (by assumption) | omega)), (hS.sub [] (by decide) (by first | rfl | simp) (by simp))⟩
   ·first | (replace hc664 := of_decide_eq_false hc664) | (replace hc664 := of_decide_eq_true (bnot_f hc664)) | (replace hc664 := bnot_f hc664) | skip
    try (have hc664x := hc664; simp only [okS, okI, okW, okP] at hc664x)
    refine c_seq ?_
    refine c_region ?_
    refine seq_yl hF (wn_none rfl) rfl rfl (yl_bin hF rfl rfl rfl rfl (fun _ => run_eql)) ?_; clear hF; intro a hF
    refine asN hF rfl rfl rfl rfl rfl ?_; clear hF; intro a hF
    refine wpList_nil ?_
    refine then_n ?_
    refine c_cond hF rfl (fun hc666 => ?_) (fun hc666 => ?_)
    ·first | (replace hc666 := of_decide_eq_true hc666) | (replace hc666 := of_decide_eq_false (bnot_t hc666)) | (replace hc666 := bnot_t hc666) | skip
     try (have hc666x := hc666; simp only [okS, okI, okW, okP] at hc666x)
     refine c_seq ?_
     refine c_region ?_
     refine mvN hF rfl rfl rfl rfl rfl ?_; clear hF; intro a hF
     refine mvN hF rfl rfl rfl rfl rfl ?_; clear hF; intro a hF
     refine fr_split hF (fun hc667 hF => ?_) (fun hc667 hF => ?_)
     ·first | (replace hc667 := of_decide_eq_true hc667) | (replace hc667 := of_decide_eq_false (bnot_t hc667)) | (replace hc667 := bnot_t hc667) | skip
      try (have hc667x := hc667; simp only [okS, okI, okW, okP] at hc667x)
      refine seq_yl hF (wn_t hF rfl rfl rfl rfl) rfl rfl (yl_fieldAddr hF rfl rfl (fun w => by kernel_rfl : ∀ w, (Instr.fieldAt 45 (.pointer (some ⟨g660, 0, none⟩)) 4).run Try.prog w = .ok (.pointer (some ⟨g660, 4, none⟩)) w)) ?_; clear hF; intro a hF
      refine seq_yl hF (wn_t hF rfl rfl rfl rfl) rfl rfl (yl_load (fun _ h => h ▸ hS) hF rfl rfl 0 rfl ag9 rfl) ?_; clear hF; intro a hF
      refine seq_yl hF (wn_t hF rfl rfl rfl rfl) rfl rfl (yl_len hF rfl rfl (fun _ => run_lenStr Try.underlying9)) ?_; clear hF; intro a hF
      refine seq_yl hF (wn_t hF rfl rfl rfl rfl) rfl rfl (yl_fieldAddr hF rfl rfl (fun w => by kernel_rfl : ∀ w, (Instr.fieldAt 45 (.pointer (some ⟨g660, 0, none⟩)) 3).run Try.prog w = .ok (.pointer (some ⟨g660, 3, none⟩)) w)) ?_; clear hF; intro a hF
      refine seq_yl hF (wn_t hF rfl rfl rfl rfl) rfl rfl (yl_load (fun _ h => h ▸ hS) hF rfl rfl 0 rfl ag3 rfl) ?_; clear hF; intro a hF
      refine seq_yl hF (wn_t hF rfl rfl rfl rfl) rfl rfl (yl_bin hF rfl rfl rfl rfl (fun _ => run_mul (by refine ⟨?_, ?_⟩ <;> omega))) ?_; clear hF; intro a hF
      refine seq_yl hF (wn_t hF rfl rfl rfl rfl) rfl rfl (yl_bin hF rfl rfl rfl rfl (fun _ => run_eql)) ?_; clear hF; intro a hF
      refine seq_yl hF (wn_none rfl) rfl rfl (pkT hF rfl rfl rfl) ?_; clear hF; intro a hF
      refine asN hF rfl rfl rfl rfl rfl ?_; clear hF; intro a hF
      refine wpList_nil ?_
      refine then_n ?_
      refine wp_ret ?_
      refine inb_r ?_
      refine then_r ?_
      refine ret_t hF rfl rfl ?_
      exact ⟨_, rfl, congrArg Value.bool (dec_d (by (try rw [empty_iff]); constructor <;> intro h9 <;> first | exact ⟨by assumption, by first | omega | (simp only [okS, okI]; omega)⟩ | (obtain ⟨h7, h8⟩ := h9; simp only [okS, okI] at h8; omega))), (hS.sub [] (by decide) (by first | rfl | simp) (by simp))⟩
     ·first | (replace hc667 := of_decide_eq_false hc667) | (replace hc667 := of_decide_eq_true (bnot_f hc667)) | (replace hc667 := bnot_f hc667) | skip
      try (have hc667x := hc667; simp only [okS, okI, okW, okP] at hc667x)
      refine skF hF rfl rfl rfl rfl rfl rfl ?_; clear hF; intro a hF
      refine skF hF rfl rfl rfl rfl rfl rfl ?_; clear hF; intro a hF
      refine skF hF rfl rfl rfl rfl rfl rfl ?_; clear hF; intro a hF
      refine skF hF rfl rfl rfl rfl rfl rfl ?_; clear hF; intro a hF
      refine skF hF rfl rfl rfl rfl rfl rfl ?_; clear hF; intro a hF
      refine skF hF rfl rfl rfl rfl rfl rfl ?_; clear hF; intro a hF
      refine skF hF rfl rfl rfl rfl rfl rfl ?_; clear hF; intro a hF
      refine seq_yl hF (wn_none rfl) rfl rfl (pkF hF rfl rfl rfl) ?_; clear hF; intro a hF
      refine asN hF rfl rfl rfl rfl rfl ?_; clear hF; intro a hF
      refine wpList_nil ?_
      refine then_n ?_
      refine wp_ret ?_
      refine inb_r ?_
      refine then_r ?_
      refine ret_t hF rfl rfl ?_
      exact ⟨_, rfl, congrArg Value.bool (dec_f (fun h9 => by obtain ⟨h7, h8⟩ := h9; simp only [okS, okI] at h8; first | exact absurd h7 (by assumption) | omega)), (hS.sub [] (by decide) (by first | rfl | simp) (by simp))⟩
    ·first | (replace hc666 := of_decide_eq_false hc666) | (replace hc666 := of_decide_eq_true (bnot_f hc666)) | (replace hc666 := bnot_f hc666) | skip
     try (have hc666x := hc666; simp only [okS, okI, okW, okP] at hc666x)
     refine wp_skip ?_
     refine inb_n ?_
     refine then_n ?_
     refine c_seq ?_
     refine c_region ?_
     refine asN hF rfl rfl rfl rfl rfl ?_; clear hF; intro a hF
     refine wpList_nil ?_
     refine then_n ?_
     refine wp_ret ?_
     refine ret_t hF rfl rfl ?_
     exact ⟨_, rfl, congrArg Value.bool (dec_f (fun h9 => by obtain ⟨h7, h8⟩ := h9; simp only [okS, okI] at h8; first | exact absurd h7 (by assumption) | omega)), (hS.sub [] (by decide) (by first | rfl | simp) (by simp))⟩

end Go.Proofs.Ytkejcnhfbfgphaa

/- walks, printed by wip/gen -/
import Derived.Test.YtkejcnhfbfgphaaX1
namespace Go.Proofs.Ytkejcnhfbfgphaa
open Go.RowKit
set_option linter.unusedVariables false
set_option linter.unusedSimpArgs false

set_option maxRecDepth 100000 in
theorem vers_any (st : ByteArray) (lv : Value) (L : List E67) (rm : Int) (s : Int) (w0 : World) (hv : Rd w0 2 lv (L).length (cells enc67 (L))) (hz : (st.size : Int) ≤ 9223372036854775807) (hL : L.length ≤ 1000000) :
  Fn Try.prog 62 #[.agg #[.string st, lv, .int .i64 rm], .int .i64 s] w0 (fun v w' => ∃ (v1 : Value) (M : List ByteArray), v = v1 ∧ M = vers st L rm s ∧ Sat w0 w' [.row 9 1 v1 (M).length (cells encS (M))]) := by
 obtain ⟨Alv, clv, rfl⟩ := Rd.form hv
 refine c_enter (N := 44) (l := [_, _]) Try.func62 rfl rfl (fun a w hF hS => ?_)
 replace hS := hS.addRo hv
 refine c_seq ?_
 refine c_region ?_
 refine seq_wp (wn_none rfl) (wp_box (cs := #[_, _, _]) hF hS rfl rfl rfl rfl rfl ?_)
 clear hF hS; intro a w g408 hF hS
 refine asN hF rfl rfl rfl rfl rfl ?_; clear hF; intro a hF
 refine wpList_nil ?_
 refine then_n ?_
 refine c_seq ?_
 refine c_region ?_
 refine seq_yl hF (wn_none rfl) rfl rfl (yl_fieldAddr hF rfl rfl (fun w => by kernel_rfl : ∀ w, (Instr.fieldAt 43 (.pointer (some ⟨g408, 0, none⟩)) 0).run Try.prog w = .ok (.pointer (some ⟨g408, 0, none⟩)) w)) ?_; clear hF; intro a hF
 refine seq_yl hF (wn_none rfl) rfl rfl (yl_load (fun _ h => h ▸ hS) hF rfl rfl 0 rfl ag9 rfl) ?_; clear hF; intro a hF
 refine mvN hF rfl rfl rfl rfl rfl ?_; clear hF; intro a hF
 refine seq_wp (wn_none rfl) (wp_call (vs := [_, _, _]) hF rfl rfl rfl rfl cf77 (imRead_any st (s) (1 : Int) _ (by omega)) ?_)
 clear hF; rintro _ w ⟨xs409, e410, rfl, hsp411, hS1⟩ a hF
 replace hS := hS.callB hS1 rfl; clear hS1
 have hsp411z := fun h9 : okS ((st).size : Int) (s) (1 : Int) => subs_size (s := st) (i := (s) * 8) (j := ((s) + (1 : Int)) * 8) (by unfold okS at h9; omega) (by unfold okS at h9; omega) (by unfold okS okI at h9; omega)
 rcases hsp411 with ⟨hk412, rfl, rfl⟩ | ⟨hk412, rfl, rfl⟩ <;> (try (have hk412x := hk412; simp only [okS, okI, okW, okP] at hk412x))
 ·skip
  refine mvN hF rfl rfl rfl rfl rfl ?_; clear hF; intro a hF
  refine seq_yl hF (wn_none rfl) rfl rfl (yl_extract hF rfl rfl rfl) ?_; clear hF; intro a hF
  refine seq_yl hF (wn_none rfl) rfl rfl (yl_extract hF rfl rfl rfl) ?_; clear hF; intro a hF
  refine asN hF rfl rfl rfl rfl rfl ?_; clear hF; intro a hF
  refine asN hF rfl rfl rfl rfl rfl ?_; clear hF; intro a hF
  refine wpList_nil ?_
  refine then_n ?_
  refine c_seq ?_
  refine c_seq ?_
  refine c_region ?_
  refine mvN hF rfl rfl rfl rfl rfl ?_; clear hF; intro a hF
  refine seq_yl hF (wn_none rfl) rfl rfl (yl_un hF rfl rfl (fun _ => run_not)) ?_; clear hF; intro a hF
  refine mvN hF rfl rfl rfl rfl rfl ?_; clear hF; intro a hF
  refine seq_yl hF (wn_t hF rfl rfl rfl rfl) rfl rfl (yl_loadK (rs := [_, _, _]) (fun _ h => h ▸ hS) hF rfl rfl 0 rfl ag43 sz43 rfl rfl) ?_; clear hF; intro a hF
  refine seq_wp (wn_t hF rfl rfl rfl rfl) (wp_call (vs := [_]) hF rfl rfl rfl rfl cf60 (dValid_any st _ L (rm) _ (hS.rdRo 1 rfl) (by first | omega | (simp; done)) (by first | omega | (simp; done))) ?_)
  clear hF; rintro _ w ⟨rfl, hS1⟩ a hF
  replace hS := hS.callB hS1 rfl; clear hS1
  refine seq_yl hF (wn_t hF rfl rfl rfl rfl) rfl rfl (yl_un hF rfl rfl (fun _ => run_not)) ?_; clear hF; intro a hF
  refine seq_yl hF (wn_none rfl) rfl rfl (pkF hF rfl rfl rfl) ?_; clear hF; intro a hF
  refine wpList_nil ?_
  refine then_n ?_
  refine c_cond hF rfl (fun hc413 => ?_) (fun hc413 => ?_)
  ·first | (replace hc413 := of_decide_eq_true hc413) | (replace hc413 := of_decide_eq_false (bnot_t hc413)) | (subst hc413) | (replace hc413 := bnot_t hc413; subst hc413) | (replace hc413 := bnot_t hc413) | skip
   try (have hc413x := hc413; simp only [okS, okI, okW, okP] at hc413x)
   refine c_seq ?_
   refine c_region ?_
   refine asN hF rfl rfl rfl rfl rfl ?_; clear hF; intro a hF
   refine wpList_nil ?_
   refine then_n ?_
   refine wp_ret ?_
   refine then_r ?_
   refine ret_t hF rfl rfl ?_
   replace hS := hS.addNil 9 1
   exact ⟨_, rfl, _, [], rfl, vers_no (fun h9 => by have h8 := h9.2; have h7 := okD_I h9.1; simp only [okW, okS, okI] at h8; first | exact absurd h9.1 (by assumption) | exact absurd h9.2 (by assumption) | omega), (hS.sub [0] (by decide) (by first | rfl | simp) (by simp))⟩
  ·first | (replace hc413 := of_decide_eq_false hc413) | (replace hc413 := of_decide_eq_true (bnot_f hc413)) | (subst hc413) | (replace hc413 := bnot_f hc413; subst hc413) | (replace hc413 := bnot_f hc413) | skip
   try (have hc413x := hc413; simp only [okS, okI, okW, okP] at hc413x)
   refine wp_skip ?_
   refine then_n ?_
   refine c_seq ?_
   refine c_region ?_
   refine mvN hF rfl rfl rfl rfl rfl ?_; clear hF; intro a hF
   refine seq_wp (wn_none rfl) (wp_bslice (parts := [(0, .tmp 24)]) (vs := [(0, _)]) (enc := encS) (e := 9) (size := 1) (cs := #[.string (subs st ((s) * 8) (((s) + (1 : Int)) * 8))]) hF hS rfl rfl rfl rfl ([(subs st ((s) * 8) (((s) + (1 : Int)) * 8))] : List ByteArray) (fun w => by kernel_rfl) rfl rfl rfl (by decide) ?_)
   clear hF hS; intro a w v415 hF hS
   obtain ⟨Av415, cv415, rfl⟩ := hS.form 0 rfl
   refine asN hF rfl rfl rfl rfl rfl ?_; clear hF; intro a hF
   refine wpList_nil ?_
   refine then_n ?_
   refine c_seq ?_
   refine c_seq ?_
   refine c_region ?_
   refine seq_yl hF (wn_none rfl) rfl rfl (yl_fieldAddr hF rfl rfl (fun w => by kernel_rfl : ∀ w, (Instr.fieldAt 43 (.pointer (some ⟨g408, 0, none⟩)) 1).run Try.prog w = .ok (.pointer (some ⟨g408, 1, none⟩)) w)) ?_; clear hF; intro a hF
   refine seq_yl hF (wn_none rfl) rfl rfl (yl_load (fun _ h => h ▸ hS) hF rfl rfl 1 rfl ag41 rfl) ?_; clear hF; intro a hF
   refine seq_yl hF (wn_none rfl) rfl rfl (yl_len hF rfl rfl (fun _ => run_lenRd sl41 (hS.rdRo 2 rfl))) ?_; clear hF; intro a hF
   refine mvN hF rfl rfl rfl rfl rfl ?_; clear hF; intro a hF
   refine wpList_nil ?_
   refine then_n ?_
   refine wp_block ?_
   refine c_loop (fun m a w => ∃ (k : Nat) (AvR : Option Addr) (mv cvR : Nat), m = L.length - k ∧ (k ≤ L.length) ∧ Fr 44 a [(1, .int .i64 (s)), (7, .slice AvR mv cvR), (27, .slice Alv (L).length clv), (28, .int .i64 (((L).length : Nat) : Int)), (29, .int .i64 ((k : Nat) : Int))] ∧ Sat w0 w (.ro 2 (.slice Alv (L).length clv) (L).length (cells enc67 (L)) :: .row 9 1 (.slice AvR mv cvR) ((versC st (L.take k) s)).length (cells encS ((versC st (L.take k) s))) :: [])) (L.length - 0) ?_ ?_
   ·exact ⟨0, Av415, _, cv415, rfl, (Nat.zero_le _), hF.to [1, 7, 27, 28, 29] rfl, (hS.sub [2, 0] (by decide) (by first | rfl | simp) (by simp))⟩
   ·clear hF hS; try clear hSS
    clear a w; rintro m a w ⟨k, AvR, mv, cvR, rfl, hinv, hF, hS⟩
    have hk : k ≤ L.length := hinv
    have hvl := versC_len st (L.take k) s
    have htl : (L.take k).length ≤ L.length := by simp; omega
    refine c_seq ?_
    refine c_region ?_
    refine seq_yl hF (wn_none rfl) rfl rfl (yl_bin hF rfl rfl rfl rfl (fun _ => run_lss)) ?_; clear hF; intro a hF
    refine wpList_nil ?_
    refine then_n ?_
    refine c_seq ?_
    refine c_cond hF rfl (fun hc416 => ?_) (fun hc416 => ?_)
    ·first | (replace hc416 := of_decide_eq_true hc416) | (replace hc416 := of_decide_eq_false (bnot_t hc416)) | (subst hc416) | (replace hc416 := bnot_t hc416; subst hc416) | (replace hc416 := bnot_t hc416) | skip
     try (have hc416x := hc416; simp only [okS, okI, okW, okP] at hc416x)
     refine wp_skip ?_
     refine then_n ?_
     refine c_seq ?_
     refine wp_block ?_
     refine c_seq ?_
     refine c_region ?_
     have hlt_hx417 : k < (L).length := by first | omega | (simp; done) | (simp; omega)
     obtain ⟨ad418, rfl⟩ := rd_some (hS.rdRo 0 rfl) hlt_hx417
     obtain ⟨x417, hx417⟩ := get_some hlt_hx417
     refine seq_yl hF (wn_none rfl) rfl rfl (yl_indexAddr hF rfl rfl rfl (fun _ => run_idx' sl41 sz67 (hS.rdRo 0 rfl) hlt_hx417)) ?_; clear hF; intro a hF
     refine seq_yl hF (wn_none rfl) rfl rfl (yl_loadEl (rs := [.int .i64 (x417.f0), .string x417.f1]) hF rfl rfl ag67 sz67 rfl (fun _ h => rd_cells (enc := enc67) (by subst h; exact hS.rdRo 0 rfl) enc67_len hx417)) ?_; clear hF; intro a hF
     refine seq_wp (wn_none rfl) (wp_alloc (cs := #[_, _]) hF hS rfl rfl rfl zr67 rfl ?_)
     clear hF hS; intro a w g419 hF hS
     refine seq_wp (wn_none rfl) (wp_store (cs' := #[_, _]) hF hS rfl rfl rfl rfl 0 rfl sz67 (by simp [Value.cells, Value.oneCell']) (by simp [Value.cells]) rfl ?_)
     clear hF hS; intro a w hF hS
     refine wpList_nil ?_
     refine then_n ?_
     refine c_seq ?_
     refine c_region ?_
     refine seq_yl hF (wn_none rfl) rfl rfl (yl_fieldAddr hF rfl rfl (fun w => by kernel_rfl : ∀ w, (Instr.fieldAt 67 (.pointer (some ⟨g419, 0, none⟩)) 0).run Try.prog w = .ok (.pointer (some ⟨g419, 0, none⟩)) w)) ?_; clear hF; intro a hF
     refine seq_yl hF (wn_none rfl) rfl rfl (yl_load (fun _ h => h ▸ hS) hF rfl rfl 0 rfl ag3 rfl) ?_; clear hF; intro a hF
     refine mvN hF rfl rfl rfl rfl rfl ?_; clear hF; intro a hF
     refine seq_yl hF (wn_none rfl) rfl rfl (yl_bin hF rfl rfl rfl rfl (fun _ => run_eql)) ?_; clear hF; intro a hF
     refine wpList_nil ?_
     refine then_n ?_
     refine c_cond hF rfl (fun hc420 => ?_) (fun hc420 => ?_)
     ·first | (replace hc420 := of_decide_eq_true hc420) | (replace hc420 := of_decide_eq_false (bnot_t hc420)) | (subst hc420) | (replace hc420 := bnot_t hc420; subst hc420) | (replace hc420 := bnot_t hc420) | skip
      try (have hc420x := hc420; simp only [okS, okI, okW, okP] at hc420x)
      refine c_region ?_
      refine mvN hF rfl rfl rfl rfl rfl ?_; clear hF; intro a hF
      refine seq_yl hF (wn_none rfl) rfl rfl (yl_fieldAddr hF rfl rfl (fun w => by kernel_rfl : ∀ w, (Instr.fieldAt 67 (.pointer (some ⟨g419, 0, none⟩)) 1).run Try.prog w = .ok (.pointer (some ⟨g419, 1, none⟩)) w)) ?_; clear hF; intro a hF
      refine seq_yl hF (wn_none rfl) rfl rfl (yl_load (fun _ h => h ▸ hS) hF rfl rfl 0 rfl ag9 rfl) ?_; clear hF; intro a hF
      refine seq_wp (wn_none rfl) (wp_bslice (parts := [(0, .tmp 39)]) (vs := [(0, _)]) (enc := encS) (e := 9) (size := 1) (cs := #[.string x417.f1]) hF hS rfl rfl rfl rfl ([x417.f1] : List ByteArray) (fun w => by kernel_rfl) rfl rfl rfl (by decide) ?_)
      clear hF hS; intro a w v421 hF hS
      obtain ⟨Av421, cv421, rfl⟩ := hS.form 0 rfl
      refine seq_wp (wn_none rfl) (wp_app (enc := encS) hF hS rfl rfl rfl rfl rfl 3 rfl sl76 inf9 rfl (by decide) (hS.rdRow 0 rfl) encS_one (by decide) (by first | omega | (simp only [List.length_append, List.length_cons, List.length_nil]; omega) | (simp; omega)) ?_)
      clear hF hS; intro a w v422 hF hS
      obtain ⟨Av422, cv422, rfl⟩ := hS.form 3 rfl
      refine asN hF rfl rfl rfl rfl rfl ?_; clear hF; intro a hF
      refine wpList_nil ?_
      refine inb_n ?_
      refine then_n ?_
      refine c_region ?_
      refine seq_yl hF (wn_none rfl) rfl rfl (yl_bin hF rfl rfl rfl rfl (fun _ => run_inc (by omega))) ?_; clear hF; intro a hF
      refine mvN hF rfl rfl rfl rfl rfl ?_; clear hF; intro a hF
      refine wpList_nil ?_
      refine then_n ?_
      rw [versC_in hx417 (by omega)] at hS hF
      exact ⟨_, (by omega), k + 1, Av422, _, cv422, rfl, (show _ ≤ _ by omega), hF.to [1, 7, 27, 28, 29] rfl, (hS.sub [2, 3] (by decide) (by first | rfl | simp) (by simp))⟩
     ·first | (replace hc420 := of_decide_eq_false hc420) | (replace hc420 := of_decide_eq_true (bnot_f hc420)) | (subst hc420) | (replace hc420 := bnot_f hc420; subst hc420) | (replace hc420 := bnot_f hc420) | skip
      try (have hc420x := hc420; simp only [okS, okI, okW, okP] at hc420x)
      refine wp_skip ?_
      refine inb_n ?_
      refine then_n ?_
      refine c_region ?_
      refine seq_yl hF (wn_none rfl) rfl rfl (yl_bin hF rfl rfl rfl rfl (fun _ => run_inc (by omega))) ?_; clear hF; intro a hF
      refine mvN hF rfl rfl rfl rfl rfl ?_; clear hF; intro a hF
      refine wpList_nil ?_
      refine then_n ?_
      rw [versC_out hx417 (by omega)] at hS
      exact ⟨_, (by omega), k + 1, AvR, _, cvR, rfl, (show _ ≤ _ by omega), hF.to [1, 7, 27, 28, 29] rfl, (hS.sub [1, 2] (by decide) (by first | rfl | simp) (by simp))⟩
    ·first | (replace hc416 := of_decide_eq_false hc416) | (replace hc416 := of_decide_eq_true (bnot_f hc416)) | (subst hc416) | (replace hc416 := bnot_f hc416; subst hc416) | (replace hc416 := bnot_f hc416) | skip
     try (have hc416x := hc416; simp only [okS, okI, okW, okP] at hc416x)
     refine wp_exit ?_
     refine then_x ?_
     refine then_x ?_
     refine inb_x ?_
     refine then_n ?_
     refine c_seq ?_
     refine c_region ?_
     refine mvN hF rfl rfl rfl rfl rfl ?_; clear hF; intro a hF
     refine asN hF rfl rfl rfl rfl rfl ?_; clear hF; intro a hF
     refine wpList_nil ?_
     refine then_n ?_
     refine wp_ret ?_
     refine ret_t hF rfl rfl ?_
     exact ⟨_, rfl, _, _, rfl, vers_yes (k := k) (‹okD st L rm› : okD st L rm) (by first | assumption | (have h8 := okD_I (‹okD st L rm› : okD st L rm); unfold okS okI; omega)) (by omega), (hS.sub [1] (by decide) (by first | rfl | simp) (by simp))⟩
 ·skip
  refine mvN hF rfl rfl rfl rfl rfl ?_; clear hF; intro a hF
  refine seq_yl hF (wn_none rfl) rfl rfl (yl_extract hF rfl rfl rfl) ?_; clear hF; intro a hF
  refine seq_yl hF (wn_none rfl) rfl rfl (yl_extract hF rfl rfl rfl) ?_; clear hF; intro a hF
  refine asN hF rfl rfl rfl rfl rfl ?_; clear hF; intro a hF
  refine asN hF rfl rfl rfl rfl rfl ?_; clear hF; intro a hF
  refine wpList_nil ?_
  refine then_n ?_
  refine c_seq ?_
  refine c_seq ?_
  refine c_region ?_
  refine mvN hF rfl rfl rfl rfl rfl ?_; clear hF; intro a hF
  refine seq_yl hF (wn_none rfl) rfl rfl (yl_un hF rfl rfl (fun _ => run_not)) ?_; clear hF; intro a hF
  refine mvN hF rfl rfl rfl rfl rfl ?_; clear hF; intro a hF
  refine skF hF rfl rfl rfl rfl rfl rfl ?_; clear hF; intro a hF
  refine skF hF rfl rfl rfl rfl rfl rfl ?_; clear hF; intro a hF
  refine skF hF rfl rfl rfl rfl rfl rfl ?_; clear hF; intro a hF
  refine seq_yl hF (wn_none rfl) rfl rfl (pkT hF rfl rfl rfl) ?_; clear hF; intro a hF
  refine wpList_nil ?_
  refine then_n ?_
  refine c_cond_t hF rfl ?_
  refine c_seq ?_
  refine c_region ?_
  refine asN hF rfl rfl rfl rfl rfl ?_; clear hF; intro a hF
  refine wpList_nil ?_
  refine then_n ?_
  refine wp_ret ?_
  refine then_r ?_
  refine ret_t hF rfl rfl ?_
  replace hS := hS.addNil 9 1
  exact ⟨_, rfl, _, [], rfl, vers_no (fun h9 => by have h8 := h9.2; have h7 := okD_I h9.1; simp only [okW, okS, okI] at h8; first | exact absurd h9.1 (by assumption) | exact absurd h9.2 (by assumption) | omega), (hS.sub [0] (by decide) (by first | rfl | simp) (by simp))⟩

set_option maxRecDepth 100000 in
theorem vers2_any (st : ByteArray) (lv : Value) (L : List E67) (rm : Int) (s : Int) (w0 : World) (hv : Rd w0 2 lv (L).length (cells enc67 (L))) (hz : (st.size : Int) ≤ 9223372036854775807) (hL : L.length ≤ 1000000) :
  Fn Try.prog 47 #[.agg #[.string st, lv, .int .i64 rm], .int .i64 s] w0 (fun v w' => ∃ (v1 : Value) (M : List ByteArray), v = v1 ∧ M = vers st L rm s ∧ Sat w0 w' [.row 9 1 v1 (M).length (cells encS (M))]) := by
 obtain ⟨Alv, clv, rfl⟩ := Rd.form hv
 refine c_enter (N := 56) (l := [_, _]) Try.func47 rfl rfl (fun a w hF hS => ?_)
 replace hS := hS.addRo hv
 refine c_seq ?_
 refine c_region ?_
 refine seq_wp (wn_none rfl) (wp_box (cs := #[_, _, _]) hF hS rfl rfl rfl rfl rfl ?_)
 clear hF hS; intro a w g424 hF hS
 refine asN hF rfl rfl rfl rfl rfl ?_; clear hF; intro a hF
 refine wpList_nil ?_
 refine then_n ?_
 refine c_seq ?_
 refine c_seq ?_
 refine c_region ?_
 refine seq_yl hF (wn_none rfl) rfl rfl (yl_loadK (rs := [_, _, _]) (fun _ h => h ▸ hS) hF rfl rfl 0 rfl ag43 sz43 rfl rfl) ?_; clear hF; intro a hF
 refine seq_wp (wn_none rfl) (wp_call (vs := [_]) hF rfl rfl rfl rfl cf44 (dValid2_any st _ L (rm) _ (hS.rdRo 1 rfl) (by first | omega | (simp; done)) (by first | omega | (simp; done))) ?_)
 clear hF; rintro _ w ⟨rfl, hS1⟩ a hF
 replace hS := hS.callB hS1 rfl; clear hS1
 refine seq_yl hF (wn_none rfl) rfl rfl (yl_un hF rfl rfl (fun _ => run_not)) ?_; clear hF; intro a hF
 refine mvN hF rfl rfl rfl rfl rfl ?_; clear hF; intro a hF
 refine fr_split hF (fun hc425 hF => ?_) (fun hc425 hF => ?_)
 ·first | (replace hc425 := of_decide_eq_true hc425) | (replace hc425 := of_decide_eq_false (bnot_t hc425)) | (subst hc425) | (replace hc425 := bnot_t hc425; subst hc425) | (replace hc425 := bnot_t hc425) | skip
  try (have hc425x := hc425; simp only [okS, okI, okW, okP] at hc425x)
  refine skF hF rfl rfl rfl rfl rfl rfl ?_; clear hF; intro a hF
  refine skF hF rfl rfl rfl rfl rfl rfl ?_; clear hF; intro a hF
  refine seq_yl hF (wn_none rfl) rfl rfl (pkT hF rfl rfl rfl) ?_; clear hF; intro a hF
  refine mvN hF rfl rfl rfl rfl rfl ?_; clear hF; intro a hF
  refine skF hF rfl rfl rfl rfl rfl rfl ?_; clear hF; intro a hF
  refine skF hF rfl rfl rfl rfl rfl rfl ?_; clear hF; intro a hF
  refine skF hF rfl rfl rfl rfl rfl rfl ?_; clear hF; intro a hF
  refine skF hF rfl rfl rfl rfl rfl rfl ?_; clear hF; intro a hF
  refine seq_yl hF (wn_none rfl) rfl rfl (pkT hF rfl rfl rfl) ?_; clear hF; intro a hF
  refine wpList_nil ?_
  refine then_n ?_
  refine c_cond_t hF rfl ?_
  refine c_seq ?_
  refine c_region ?_
  refine asN hF rfl rfl rfl rfl rfl ?_; clear hF; intro a hF
  refine wpList_nil ?_
  refine then_n ?_
  refine wp_ret ?_
  refine then_r ?_
  refine ret_t hF rfl rfl ?_
  replace hS := hS.addNil 9 1
  exact ⟨_, rfl, _, [], rfl, vers_no (fun h9 => by have h8 := h9.2; have h7 := okD_I h9.1; simp only [okW, okS, okI] at h8; first | exact absurd h9.1 (by assumption) | exact absurd h9.2 (by assumption) | omega), (hS.sub [0] (by decide) (by first | rfl | simp) (by simp))⟩
 ·first | (replace hc425 := of_decide_eq_false hc425) | (replace hc425 := of_decide_eq_true (bnot_f hc425)) | (subst hc425) | (replace hc425 := bnot_f hc425; subst hc425) | (replace hc425 := bnot_f hc425) | skip
  try (have hc425x := hc425; simp only [okS, okI, okW, okP] at hc425x)
  refine seq_yl hF (wn_t hF rfl rfl rfl rfl) rfl rfl (yl_move hF rfl rfl) ?_; clear hF; intro a hF
  refine seq_yl hF (wn_t hF rfl rfl rfl rfl) rfl rfl (yl_bin hF rfl rfl rfl rfl (fun _ => run_lss)) ?_; clear hF; intro a hF
  refine seq_yl hF (wn_none rfl) rfl rfl (pkF hF rfl rfl rfl) ?_; clear hF; intro a hF
  refine mvN hF rfl rfl rfl rfl rfl ?_; clear hF; intro a hF
  refine fr_split hF (fun hc427 hF => ?_) (fun hc427 hF => ?_)
  ·first | (replace hc427 := of_decide_eq_true hc427) | (replace hc427 := of_decide_eq_false (bnot_t hc427)) | (subst hc427) | (replace hc427 := bnot_t hc427; subst hc427) | (replace hc427 := bnot_t hc427) | skip
   try (have hc427x := hc427; simp only [okS, okI, okW, okP] at hc427x)
   refine skF hF rfl rfl rfl rfl rfl rfl ?_; clear hF; intro a hF
   refine skF hF rfl rfl rfl rfl rfl rfl ?_; clear hF; intro a hF
   refine skF hF rfl rfl rfl rfl rfl rfl ?_; clear hF; intro a hF
   refine skF hF rfl rfl rfl rfl rfl rfl ?_; clear hF; intro a hF
   refine seq_yl hF (wn_none rfl) rfl rfl (pkT hF rfl rfl rfl) ?_; clear hF; intro a hF
   refine wpList_nil ?_
   refine then_n ?_
   refine c_cond_t hF rfl ?_
   refine c_seq ?_
   refine c_region ?_
   refine asN hF rfl rfl rfl rfl rfl ?_; clear hF; intro a hF
   refine wpList_nil ?_
   refine then_n ?_
   refine wp_ret ?_
   refine then_r ?_
   refine ret_t hF rfl rfl ?_
   replace hS := hS.addNil 9 1
   exact ⟨_, rfl, _, [], rfl, vers_no (fun h9 => by have h8 := h9.2; have h7 := okD_I h9.1; simp only [okW, okS, okI] at h8; first | exact absurd h9.1 (by assumption) | exact absurd h9.2 (by assumption) | omega), (hS.sub [0] (by decide) (by first | rfl | simp) (by simp))⟩
  ·first | (replace hc427 := of_decide_eq_false hc427) | (replace hc427 := of_decide_eq_true (bnot_f hc427)) | (subst hc427) | (replace hc427 := bnot_f hc427; subst hc427) | (replace hc427 := bnot_f hc427) | skip
   try (have hc427x := hc427; simp only [okS, okI, okW, okP] at hc427x)
   refine seq_yl hF (wn_t hF rfl rfl rfl rfl) rfl rfl (yl_move hF rfl rfl) ?_; clear hF; intro a hF
   refine seq_yl hF (wn_t hF rfl rfl rfl rfl) rfl rfl (yl_loadK (rs := [_, _, _]) (fun _ h => h ▸ hS) hF rfl rfl 0 rfl ag43 sz43 rfl rfl) ?_; clear hF; intro a hF
   refine seq_wp (wn_t hF rfl rfl rfl rfl) (wp_call (vs := [_]) hF rfl rfl rfl rfl cf30 (secs_any st _ _ _ (by omega)) ?_)
   clear hF; rintro _ w ⟨rfl, hS1⟩ a hF
   replace hS := hS.callB hS1 rfl; clear hS1
   refine seq_yl hF (wn_t hF rfl rfl rfl rfl) rfl rfl (yl_bin hF rfl rfl rfl rfl (fun _ => run_geq)) ?_; clear hF; intro a hF
   refine seq_yl hF (wn_none rfl) rfl rfl (pkF hF rfl rfl rfl) ?_; clear hF; intro a hF
   refine wpList_nil ?_
   refine then_n ?_
   refine c_cond hF rfl (fun hc429 => ?_) (fun hc429 => ?_)
   ·first | (replace hc429 := of_decide_eq_true hc429) | (replace hc429 := of_decide_eq_false (bnot_t hc429)) | (subst hc429) | (replace hc429 := bnot_t hc429; subst hc429) | (replace hc429 := bnot_t hc429) | skip
    try (have hc429x := hc429; simp only [okS, okI, okW, okP] at hc429x)
    refine c_seq ?_
    refine c_region ?_
    refine asN hF rfl rfl rfl rfl rfl ?_; clear hF; intro a hF
    refine wpList_nil ?_
    refine then_n ?_
    refine wp_ret ?_
    refine then_r ?_
    refine ret_t hF rfl rfl ?_
    replace hS := hS.addNil 9 1
    exact ⟨_, rfl, _, [], rfl, vers_no (fun h9 => by have h8 := h9.2; have h7 := okD_I h9.1; simp only [okW, okS, okI] at h8; first | exact absurd h9.1 (by assumption) | exact absurd h9.2 (by assumption) | omega), (hS.sub [0] (by decide) (by first | rfl | simp) (by simp))⟩
   ·first | (replace hc429 := of_decide_eq_false hc429) | (replace hc429 := of_decide_eq_true (bnot_f hc429)) | (subst hc429) | (replace hc429 := bnot_f hc429; subst hc429) | (replace hc429 := bnot_f hc429) | skip
    try (have hc429x := hc429; simp only [okS, okI, okW, okP] at hc429x)
    refine wp_skip ?_
    refine then_n ?_
    refine c_seq ?_
    refine c_region ?_
    refine seq_yl hF (wn_none rfl) rfl rfl (yl_fieldAddr hF rfl rfl (fun w => by kernel_rfl : ∀ w, (Instr.fieldAt 43 (.pointer (some ⟨g424, 0, none⟩)) 0).run Try.prog w = .ok (.pointer (some ⟨g424, 0, none⟩)) w)) ?_; clear hF; intro a hF
    refine seq_yl hF (wn_none rfl) rfl rfl (yl_load (fun _ h => h ▸ hS) hF rfl rfl 0 rfl ag9 rfl) ?_; clear hF; intro a hF
    refine mvN hF rfl rfl rfl rfl rfl ?_; clear hF; intro a hF
    refine seq_wp (wn_none rfl) (wp_call (vs := [_, _, _]) hF rfl rfl rfl rfl cf69 (imRead2_any st (s) (1 : Int) _ (by omega)) ?_)
    clear hF; rintro _ w ⟨xs431, e432, rfl, hsp433, hS1⟩ a hF
    replace hS := hS.callB hS1 rfl; clear hS1
    have hsp433z := fun h9 : okS ((st).size : Int) (s) (1 : Int) => subs_size (s := st) (i := (s) * 8) (j := ((s) + (1 : Int)) * 8) (by unfold okS at h9; omega) (by unfold okS at h9; omega) (by unfold okS okI at h9; omega)
    obtain ⟨hk434, rfl, rfl⟩ := hsp433.resolve_right (fun h9 => h9.1 (by have h8 := okD_I (‹okD st L rm› : okD st L rm); unfold okS okI; omega))
    try (have hk434x := hk434; simp only [okS, okI, okW, okP] at hk434x)
    refine mvN hF rfl rfl rfl rfl rfl ?_; clear hF; intro a hF
    refine seq_yl hF (wn_none rfl) rfl rfl (yl_extract hF rfl rfl rfl) ?_; clear hF; intro a hF
    refine seq_yl hF (wn_none rfl) rfl rfl (yl_extract hF rfl rfl rfl) ?_; clear hF; intro a hF
    refine asN hF rfl rfl rfl rfl rfl ?_; clear hF; intro a hF
    refine asN hF rfl rfl rfl rfl rfl ?_; clear hF; intro a hF
    refine wpList_nil ?_
    refine then_n ?_
    refine c_seq ?_
    refine c_region ?_
    refine mvN hF rfl rfl rfl rfl rfl ?_; clear hF; intro a hF
    refine seq_wp (wn_none rfl) (wp_bslice (parts := [(0, .tmp 29)]) (vs := [(0, _)]) (enc := encS) (e := 9) (size := 1) (cs := #[.string (subs st ((s) * 8) (((s) + (1 : Int)) * 8))]) hF hS rfl rfl rfl rfl ([(subs st ((s) * 8) (((s) + (1 : Int)) * 8))] : List ByteArray) (fun w => by kernel_rfl) rfl rfl rfl (by decide) ?_)
    clear hF hS; intro a w v435 hF hS
    obtain ⟨Av435, cv435, rfl⟩ := hS.form 0 rfl
    refine asN hF rfl rfl rfl rfl rfl ?_; clear hF; intro a hF
    refine wpList_nil ?_
    refine then_n ?_
    refine c_seq ?_
    refine c_seq ?_
    refine c_region ?_
    refine asN hF rfl rfl rfl rfl rfl ?_; clear hF; intro a hF
    refine wpList_nil ?_
    refine then_n ?_
    refine wp_block ?_
    refine c_loop (fun m a w => ∃ (k : Nat) (AvR : Option Addr) (mv cvR : Nat), m = L.length - k ∧ (k ≤ L.length) ∧ Fr 56 a [(1, .int .i64 (s)), (2, .pointer (some ⟨g424, 0, none⟩)), (7, .slice AvR mv cvR), (8, .int .i64 ((k : Nat) : Int))] ∧ Sat w0 w (.box g424 43 #[.string st, .slice Alv (L).length clv, .int .i64 (rm)] :: .ro 2 (.slice Alv (L).length clv) (L).length (cells enc67 (L)) :: .row 9 1 (.slice AvR mv cvR) ((versC st (L.take k) s)).length (cells encS ((versC st (L.take k) s))) :: [])) (L.length - 0) ?_ ?_
    ·exact ⟨0, Av435, _, cv435, rfl, (Nat.zero_le _), hF.to [1, 2, 7, 8] rfl, (hS.sub [1, 2, 0] (by decide) (by first | rfl | simp) (by simp))⟩
    ·clear hF hS; try clear hSS
     clear a w; rintro m a w ⟨k, AvR, mv, cvR, rfl, hinv, hF, hS⟩
     have hk : k ≤ L.length := hinv
     have hvl := versC_len st (L.take k) s
     have htl : (L.take k).length ≤ L.length := by simp; omega
     refine c_seq ?_
     refine c_seq ?_
     refine c_region ?_
     refine mvN hF rfl rfl rfl rfl rfl ?_; clear hF; intro a hF
     refine seq_yl hF (wn_none rfl) rfl rfl (yl_fieldAddr hF rfl rfl (fun w => by kernel_rfl : ∀ w, (Instr.fieldAt 43 (.pointer (some ⟨g424, 0, none⟩)) 1).run Try.prog w = .ok (.pointer (some ⟨g424, 1, none⟩)) w)) ?_; clear hF; intro a hF
     refine seq_yl hF (wn_none rfl) rfl rfl (yl_load (fun _ h => h ▸ hS) hF rfl rfl 0 rfl ag41 rfl) ?_; clear hF; intro a hF
     refine seq_yl hF (wn_none rfl) rfl rfl (yl_len hF rfl rfl (fun _ => run_lenRd sl41 (hS.rdRo 1 rfl))) ?_; clear hF; intro a hF
     refine seq_yl hF (wn_none rfl) rfl rfl (yl_bin hF rfl rfl rfl rfl (fun _ => run_lss)) ?_; clear hF; intro a hF
     refine wpList_nil ?_
     refine then_n ?_
     refine c_cond hF rfl (fun hc436 => ?_) (fun hc436 => ?_)
     ·first | (replace hc436 := of_decide_eq_true hc436) | (replace hc436 := of_decide_eq_false (bnot_t hc436)) | (subst hc436) | (replace hc436 := bnot_t hc436; subst hc436) | (replace hc436 := bnot_t hc436) | skip
      try (have hc436x := hc436; simp only [okS, okI, okW, okP] at hc436x)
      refine wp_skip ?_
      refine then_n ?_
      refine c_seq ?_
      refine wp_block ?_
      refine c_seq ?_
      refine c_region ?_
      refine seq_yl hF (wn_none rfl) rfl rfl (yl_fieldAddr hF rfl rfl (fun w => by kernel_rfl : ∀ w, (Instr.fieldAt 43 (.pointer (some ⟨g424, 0, none⟩)) 1).run Try.prog w = .ok (.pointer (some ⟨g424, 1, none⟩)) w)) ?_; clear hF; intro a hF
      refine seq_yl hF (wn_none rfl) rfl rfl (yl_load (fun _ h => h ▸ hS) hF rfl rfl 0 rfl ag41 rfl) ?_; clear hF; intro a hF
      refine mvN hF rfl rfl rfl rfl rfl ?_; clear hF; intro a hF
      have hlt_hx437 : k < (L).length := by first | omega | (simp; done) | (simp; omega)
      obtain ⟨ad438, rfl⟩ := rd_some (hS.rdRo 1 rfl) hlt_hx437
      obtain ⟨x437, hx437⟩ := get_some hlt_hx437
      refine seq_yl hF (wn_none rfl) rfl rfl (yl_indexAddr hF rfl rfl rfl (fun _ => run_idx' sl41 sz67 (hS.rdRo 1 rfl) hlt_hx437)) ?_; clear hF; intro a hF
      refine seq_yl hF (wn_none rfl) rfl rfl (yl_fieldAddr hF rfl rfl (fun w => run_fa0 fo67_0)) ?_; clear hF; intro a hF
      refine seq_yl hF (wn_none rfl) rfl rfl (yl_loadAt hF rfl rfl ag3 (fun _ h => rd_cell0 (enc := enc67) (by subst h; exact hS.rdRo 1 rfl) enc67_len hx437 rfl rfl)) ?_; clear hF; intro a hF
      refine mvN hF rfl rfl rfl rfl rfl ?_; clear hF; intro a hF
      refine seq_yl hF (wn_none rfl) rfl rfl (yl_bin hF rfl rfl rfl rfl (fun _ => run_eql)) ?_; clear hF; intro a hF
      refine wpList_nil ?_
      refine then_n ?_
      refine c_cond hF rfl (fun hc439 => ?_) (fun hc439 => ?_)
      ·first | (replace hc439 := of_decide_eq_true hc439) | (replace hc439 := of_decide_eq_false (bnot_t hc439)) | (subst hc439) | (replace hc439 := bnot_t hc439; subst hc439) | (replace hc439 := bnot_t hc439) | skip
       try (have hc439x := hc439; simp only [okS, okI, okW, okP] at hc439x)
       refine c_region ?_
       refine mvN hF rfl rfl rfl rfl rfl ?_; clear hF; intro a hF
       refine seq_yl hF (wn_none rfl) rfl rfl (yl_fieldAddr hF rfl rfl (fun w => by kernel_rfl : ∀ w, (Instr.fieldAt 43 (.pointer (some ⟨g424, 0, none⟩)) 1).run Try.prog w = .ok (.pointer (some ⟨g424, 1, none⟩)) w)) ?_; clear hF; intro a hF
       refine seq_yl hF (wn_none rfl) rfl rfl (yl_load (fun _ h => h ▸ hS) hF rfl rfl 0 rfl ag41 rfl) ?_; clear hF; intro a hF
       refine mvN hF rfl rfl rfl rfl rfl ?_; clear hF; intro a hF
       refine seq_yl hF (wn_none rfl) rfl rfl (yl_indexAddr hF rfl rfl rfl (fun _ => run_idx' sl41 sz67 (hS.rdRo 1 rfl) hlt_hx437)) ?_; clear hF; intro a hF
       refine seq_yl hF (wn_none rfl) rfl rfl (yl_fieldAddr hF rfl rfl (fun w => run_fa fo67_1)) ?_; clear hF; intro a hF
       refine seq_yl hF (wn_none rfl) rfl rfl (yl_loadAt hF rfl rfl ag9 (fun _ h => rd_cell (j := 1) (enc := enc67) (by subst h; exact hS.rdRo 1 rfl) enc67_len hx437 rfl rfl)) ?_; clear hF; intro a hF
       refine seq_wp (wn_none rfl) (wp_bslice (parts := [(0, .tmp 52)]) (vs := [(0, _)]) (enc := encS) (e := 9) (size := 1) (cs := #[.string x437.f1]) hF hS rfl rfl rfl rfl ([x437.f1] : List ByteArray) (fun w => by kernel_rfl) rfl rfl rfl (by decide) ?_)
       clear hF hS; intro a w v440 hF hS
       obtain ⟨Av440, cv440, rfl⟩ := hS.form 0 rfl
       refine seq_wp (wn_none rfl) (wp_app (enc := encS) hF hS rfl rfl rfl rfl rfl 3 rfl sl76 inf9 rfl (by decide) (hS.rdRow 0 rfl) encS_one (by decide) (by first | omega | (simp only [List.length_append, List.length_cons, List.length_nil]; omega) | (simp; omega)) ?_)
       clear hF hS; intro a w v441 hF hS
       obtain ⟨Av441, cv441, rfl⟩ := hS.form 3 rfl
       refine asN hF rfl rfl rfl rfl rfl ?_; clear hF; intro a hF
       refine wpList_nil ?_
       refine inb_n ?_
       refine then_n ?_
       refine c_region ?_
       refine mvN hF rfl rfl rfl rfl rfl ?_; clear hF; intro a hF
       refine seq_yl hF (wn_none rfl) rfl rfl (yl_bin hF rfl rfl rfl rfl (fun _ => run_inc (by omega))) ?_; clear hF; intro a hF
       refine asN hF rfl rfl rfl rfl rfl ?_; clear hF; intro a hF
       refine wpList_nil ?_
       refine then_n ?_
       rw [versC_in hx437 (by omega)] at hS hF
       exact ⟨_, (by omega), k + 1, Av441, _, cv441, rfl, (show _ ≤ _ by omega), hF.to [1, 2, 7, 8] rfl, (hS.sub [1, 2, 3] (by decide) (by first | rfl | simp) (by simp))⟩
      ·first | (replace hc439 := of_decide_eq_false hc439) | (replace hc439 := of_decide_eq_true (bnot_f hc439)) | (subst hc439) | (replace hc439 := bnot_f hc439; subst hc439) | (replace hc439 := bnot_f hc439) | skip
       try (have hc439x := hc439; simp only [okS, okI, okW, okP] at hc439x)
       refine wp_skip ?_
       refine inb_n ?_
       refine then_n ?_
       refine c_region ?_
       refine mvN hF rfl rfl rfl rfl rfl ?_; clear hF; intro a hF
       refine seq_yl hF (wn_none rfl) rfl rfl (yl_bin hF rfl rfl rfl rfl (fun _ => run_inc (by omega))) ?_; clear hF; intro a hF
       refine asN hF rfl rfl rfl rfl rfl ?_; clear hF; intro a hF
       refine wpList_nil ?_
       refine then_n ?_
       rw [versC_out hx437 (by omega)] at hS
       exact ⟨_, (by omega), k + 1, AvR, _, cvR, rfl, (show _ ≤ _ by omega), hF.to [1, 2, 7, 8] rfl, (hS.sub [0, 1, 2] (by decide) (by first | rfl | simp) (by simp))⟩
     ·first | (replace hc436 := of_decide_eq_false hc436) | (replace hc436 := of_decide_eq_true (bnot_f hc436)) | (subst hc436) | (replace hc436 := bnot_f hc436; subst hc436) | (replace hc436 := bnot_f hc436) | skip
      try (have hc436x := hc436; simp only [okS, okI, okW, okP] at hc436x)
      refine wp_exit ?_
      refine then_x ?_
      refine then_x ?_
      refine inb_x ?_
      refine then_n ?_
      refine c_seq ?_
      refine c_region ?_
      refine mvN hF rfl rfl rfl rfl rfl ?_; clear hF; intro a hF
      refine asN hF rfl rfl rfl rfl rfl ?_; clear hF; intro a hF
      refine wpList_nil ?_
      refine then_n ?_
      refine wp_ret ?_
      refine ret_t hF rfl rfl ?_
      exact ⟨_, rfl, _, _, rfl, vers_yes (k := k) (‹okD st L rm› : okD st L rm) (by first | assumption | (have h8 := okD_I (‹okD st L rm› : okD st L rm); unfold okS okI; omega)) (by omega), (hS.sub [2] (by decide) (by first | rfl | simp) (by simp))⟩

end Go.Proofs.Ytkejcnhfbfgphaa

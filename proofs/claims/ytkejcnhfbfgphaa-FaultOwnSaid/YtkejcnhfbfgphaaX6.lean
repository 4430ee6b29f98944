/- walks, printed by wip/gen -/
import Derived.Test.YtkejcnhfbfgphaaX4
namespace Go.Proofs.Ytkejcnhfbfgphaa
open Go.RowKit
set_option linter.unusedVariables false
set_option linter.unusedSimpArgs false

set_option maxHeartbeats 1000000 in
set_option maxRecDepth 100000 in
theorem flush2_any (st : ByteArray) (lv : Value) (L : List E67) (rm : Int) (w0 : World) (hv : Rd w0 2 lv (L).length (cells enc67 (L))) (hz : (st.size : Int) ≤ 9223372036854775807) (hL : L.length ≤ 1000000) :
  Fn Try.prog 49 #[.agg #[.string st, lv, .int .i64 rm]] w0 (fun v w' => ∃ (st1 : ByteArray) (rm1 : Int) (lv1 : Value), v = .agg #[.string st1, lv1, .int .i64 rm1] ∧ flushF st L rm = (st1, rm1) ∧ EmptyV lv1 ∧ Sat w0 w' []) := by
 obtain ⟨Alv, clv, rfl⟩ := Rd.form hv
 refine c_enter (N := 17) (l := [_]) Try.func49 rfl rfl (fun a w hF hS => ?_)
 replace hS := hS.addRo hv
 refine c_seq ?_
 refine c_region ?_
 refine seq_wp (wn_none rfl) (wp_box (cs := #[_, _, _]) hF hS rfl rfl rfl rfl rfl ?_)
 clear hF hS; intro a w g533 hF hS
 refine seq_wp (wn_none rfl) (wp_alloc (cs := #[_, _, _]) hF hS rfl rfl rfl zr43 rfl ?_)
 clear hF hS; intro a w g534 hF hS
 refine wpList_nil ?_
 refine then_n ?_
 refine c_seq ?_
 refine c_seq ?_
 refine c_region ?_
 refine seq_yl hF (wn_none rfl) rfl rfl (yl_loadK (rs := [_, _, _]) (fun _ h => h ▸ hS) hF rfl rfl 1 rfl ag43 sz43 rfl rfl) ?_; clear hF; intro a hF
 refine seq_wp (wn_none rfl) (wp_call (vs := [_]) hF rfl rfl rfl rfl cf44 (dValid2_any st _ L (rm) _ (hS.rdRo 2 rfl) (by first | omega | (simp; done)) (by first | omega | (simp; done))) ?_)
 clear hF; rintro _ w ⟨rfl, hS1⟩ a hF
 replace hS := hS.callB hS1 rfl; clear hS1
 refine seq_yl hF (wn_none rfl) rfl rfl (yl_un hF rfl rfl (fun _ => run_not)) ?_; clear hF; intro a hF
 refine wpList_nil ?_
 refine then_n ?_
 refine c_cond hF rfl (fun hc535 => ?_) (fun hc535 => ?_)
 ·first | (replace hc535 := of_decide_eq_true hc535) | (replace hc535 := of_decide_eq_false (bnot_t hc535)) | (subst hc535) | (replace hc535 := bnot_t hc535; subst hc535) | (replace hc535 := bnot_t hc535) | skip
  try (have hc535x := hc535; simp only [okS, okI, okW, okP] at hc535x)
  refine c_seq ?_
  refine c_region ?_
  refine seq_yl hF (wn_none rfl) rfl rfl (yl_build (parts := []) (vs := []) (cs := [_, _, _]) hF bd43 rfl rfl rfl rfl) ?_; clear hF; intro a hF
  refine seq_wp (wn_none rfl) (wp_store (cs' := #[_, _, _]) hF hS rfl rfl rfl rfl 0 rfl sz43 (by simp [Value.cells, Value.oneCell']) (by simp [Value.cells]) rfl ?_)
  clear hF hS; intro a w hF hS
  refine wpList_nil ?_
  refine then_n ?_
  refine wp_ret ?_
  refine then_r ?_
  refine ret_c hF rfl (resC hS rfl 0 rfl ag43 sz43) ?_
  exact ⟨_, rfl, _, _, _, rfl, fl_bad (by assumption), EmptyV.nil, (hS.sub [] (by decide) (by first | rfl | simp) (by simp))⟩
 ·first | (replace hc535 := of_decide_eq_false hc535) | (replace hc535 := of_decide_eq_true (bnot_f hc535)) | (subst hc535) | (replace hc535 := bnot_f hc535; subst hc535) | (replace hc535 := bnot_f hc535) | skip
  try (have hc535x := hc535; simp only [okS, okI, okW, okP] at hc535x)
  refine wp_skip ?_
  refine then_n ?_
  refine c_seq ?_
  refine wp_block ?_
  have hd9 : okD st L rm := by assumption
  refine c_loop (fun m a w => ∃ (st1 : ByteArray) (L1 : List E67) (AvW : Option Addr) (cvW : Nat), m = L1.length ∧ (okD st1 L1 rm ∧ flSt st L = flSt st1 L1) ∧ Fr 17 a [(1, .pointer (some ⟨g533, 0, none⟩)), (2, .pointer (some ⟨g534, 0, none⟩))] ∧ Sat w0 w (.box g533 43 #[.string st1, .slice AvW (L1).length cvW, .int .i64 (rm)] :: .box g534 43 #[.string (⟨#[]⟩ : ByteArray), .slice none 0 0, .int .i64 (0 : Int)] :: .ro 2 (.slice AvW (L1).length cvW) (L1).length (cells enc67 (L1)) :: [])) (L.length) ?_ ?_
  ·exact ⟨st, L, Alv, clv, rfl, ⟨hd9, rfl⟩, hF.to [1, 2] rfl, (hS.sub [1, 0, 2] (by decide) (by first | rfl | simp) (by simp))⟩
  ·clear hF hS; try clear hSS
   clear a w; rintro m a w ⟨st1, L1, AvW, cvW, rfl, hinv, hF, hS⟩
   obtain ⟨hd1, hfl⟩ := hinv
   have hd1i := okD_I hd1
   refine c_seq ?_
   refine c_seq ?_
   refine c_region ?_
   refine seq_yl hF (wn_none rfl) rfl rfl (yl_fieldAddr hF rfl rfl (fun w => by kernel_rfl : ∀ w, (Instr.fieldAt 43 (.pointer (some ⟨g533, 0, none⟩)) 1).run Try.prog w = .ok (.pointer (some ⟨g533, 1, none⟩)) w)) ?_; clear hF; intro a hF
   refine seq_yl hF (wn_none rfl) rfl rfl (yl_load (fun _ h => h ▸ hS) hF rfl rfl 0 rfl ag41 rfl) ?_; clear hF; intro a hF
   refine seq_yl hF (wn_none rfl) rfl rfl (yl_len hF rfl rfl (fun _ => run_lenRd sl41 (hS.rdRo 2 rfl))) ?_; clear hF; intro a hF
   refine seq_yl hF (wn_none rfl) rfl rfl (yl_bin hF rfl rfl rfl rfl (fun _ => run_gtr)) ?_; clear hF; intro a hF
   refine wpList_nil ?_
   refine then_n ?_
   refine c_cond hF rfl (fun hc536 => ?_) (fun hc536 => ?_)
   ·first | (replace hc536 := of_decide_eq_true hc536) | (replace hc536 := of_decide_eq_false (bnot_t hc536)) | (subst hc536) | (replace hc536 := bnot_t hc536; subst hc536) | (replace hc536 := bnot_t hc536) | skip
    try (have hc536x := hc536; simp only [okS, okI, okW, okP] at hc536x)
    refine wp_skip ?_
    refine then_n ?_
    refine wp_block ?_
    refine c_region ?_
    refine seq_yl hF (wn_none rfl) rfl rfl (yl_loadK (rs := [_, _, _]) (fun _ h => h ▸ hS) hF rfl rfl 0 rfl ag43 sz43 rfl rfl) ?_; clear hF; intro a hF
    refine seq_wp (wn_none rfl) (wp_call (vs := [_, _]) hF rfl rfl rfl rfl cf73 (dest2_any st1 _ L1 (rm) (0 : Int) _ (hS.rdRo 2 rfl) (by first | omega | (simp; done)) (by first | omega | (simp; done))) ?_)
    clear hF; rintro _ w ⟨st537, v538, Lq539, rm540, b541, rfl, hq542, hS1⟩ a hF
    replace hS := hS.callB hS1 rfl; clear hS1
    obtain ⟨Av538, cv538, rfl⟩ := hS.form 0 rfl
    have hq542b := destF_bd hq542
    obtain ⟨p543, hp543⟩ := get_some (L := L1) (k := 0) (by have h8 := okD_I hd1; omega)
    have h8 := (destF_at hd1 hp543).symm.trans hq542; injection h8 with e1 h8; injection h8 with e2 h8; injection h8 with e3 e4; subst e1 e2 e3 e4
    have hq542k := dest_ok hd1 hp543
    have hq542f := fl_step (st := st1) hp543
    have hq542n := len_selL (s := p543.f0) (old := (fun i => decide (i ≤ ((0 : Nat) : Int)))) L1 0
    refine mvN hF rfl rfl rfl rfl rfl ?_; clear hF; intro a hF
    refine seq_yl hF (wn_none rfl) rfl rfl (yl_extract hF rfl rfl rfl) ?_; clear hF; intro a hF
    refine seq_yl hF (wn_none rfl) rfl rfl (yl_extract hF rfl rfl rfl) ?_; clear hF; intro a hF
    refine seq_wp (wn_none rfl) (wp_store (cs' := #[_, _, _]) hF hS rfl rfl rfl rfl 1 rfl sz43 (by simp [Value.cells, Value.oneCell']) (by simp [Value.cells]) rfl ?_)
    clear hF hS; intro a w hF hS
    refine wpList_nil ?_
    refine inb_n ?_
    refine then_n ?_
    replace hS := hS.toRo 0 rfl
    exact ⟨_, (by omega), (wim st1 p543.f0 p543.f1), (selL p543.f0 (fun i => decide (i ≤ ((0 : Nat) : Int))) 0 L1), Av538, cv538, rfl, ⟨hq542k.1, hfl.trans hq542f.1⟩, hF.to [1, 2] rfl, (hS.sub [1, 2, 0] (by decide) (by first | rfl | simp) (by simp))⟩
   ·first | (replace hc536 := of_decide_eq_false hc536) | (replace hc536 := of_decide_eq_true (bnot_f hc536)) | (subst hc536) | (replace hc536 := bnot_f hc536; subst hc536) | (replace hc536 := bnot_f hc536) | skip
    try (have hc536x := hc536; simp only [okS, okI, okW, okP] at hc536x)
    refine wp_exit ?_
    refine then_x ?_
    refine then_x ?_
    refine inb_x ?_
    refine then_n ?_
    refine c_seq ?_
    refine c_region ?_
    refine seq_yl hF (wn_none rfl) rfl rfl (yl_loadK (rs := [_, _, _]) (fun _ h => h ▸ hS) hF rfl rfl 0 rfl ag43 sz43 rfl rfl) ?_; clear hF; intro a hF
    refine seq_wp (wn_none rfl) (wp_store (cs' := #[_, _, _]) hF hS rfl rfl rfl rfl 1 rfl sz43 (by simp [Value.cells, Value.oneCell']) (by simp [Value.cells]) rfl ?_)
    clear hF hS; intro a w hF hS
    refine wpList_nil ?_
    refine then_n ?_
    refine wp_ret ?_
    refine ret_c hF rfl (resC hS rfl 1 rfl ag43 sz43) ?_
    exact ⟨_, rfl, _, _, _, rfl, flush_end hd9 hfl (by omega), EmptyV.of (hS.rdRo 2 rfl) (by omega), (hS.sub [] (by decide) (by first | rfl | simp) (by simp))⟩

set_option maxRecDepth 100000 in
theorem sameD_any (st : ByteArray) (lv : Value) (L : List E67) (rm : Int) (sb : ByteArray) (lb : Value) (M : List E67) (rb : Int) (w0 : World) (hv : Rd w0 2 lv (L).length (cells enc67 (L))) (hu : Rd w0 2 lb (M).length (cells enc67 (M))) (hL : L.length ≤ 1000000) (hM : M.length ≤ 1000000) :
  Fn Try.prog 27 #[.agg #[.string st, lv, .int .i64 rm], .agg #[.string sb, lb, .int .i64 rb]] w0 (fun v w' => v = .bool (decide (st = sb ∧ rm = rb ∧ L = M)) ∧ Sat w0 w' []) := by
 obtain ⟨Alv, clv, rfl⟩ := Rd.form hv
 obtain ⟨Alb, clb, rfl⟩ := Rd.form hu
 refine c_enter (N := 45) (l := [_, _]) Try.func27 rfl rfl (fun a w hF hS => ?_)
 replace hS := hS.addRo hu
 replace hS := hS.addRo hv
 refine c_seq ?_
 refine c_region ?_
 refine seq_wp (wn_none rfl) (wp_box (cs := #[_, _, _]) hF hS rfl rfl rfl rfl rfl ?_)
 clear hF hS; intro a w g544 hF hS
 refine seq_wp (wn_none rfl) (wp_box (cs := #[_, _, _]) hF hS rfl rfl rfl rfl rfl ?_)
 clear hF hS; intro a w g545 hF hS
 refine asN hF rfl rfl rfl rfl rfl ?_; clear hF; intro a hF
 refine wpList_nil ?_
 refine then_n ?_
 refine c_seq ?_
 refine c_seq ?_
 refine c_region ?_
 refine seq_yl hF (wn_none rfl) rfl rfl (yl_fieldAddr hF rfl rfl (fun w => by kernel_rfl : ∀ w, (Instr.fieldAt 43 (.pointer (some ⟨g544, 0, none⟩)) 0).run Try.prog w = .ok (.pointer (some ⟨g544, 0, none⟩)) w)) ?_; clear hF; intro a hF
 refine seq_yl hF (wn_none rfl) rfl rfl (yl_load (fun _ h => h ▸ hS) hF rfl rfl 1 rfl ag9 rfl) ?_; clear hF; intro a hF
 refine seq_yl hF (wn_none rfl) rfl rfl (yl_fieldAddr hF rfl rfl (fun w => by kernel_rfl : ∀ w, (Instr.fieldAt 43 (.pointer (some ⟨g545, 0, none⟩)) 0).run Try.prog w = .ok (.pointer (some ⟨g545, 0, none⟩)) w)) ?_; clear hF; intro a hF
 refine seq_yl hF (wn_none rfl) rfl rfl (yl_load (fun _ h => h ▸ hS) hF rfl rfl 0 rfl ag9 rfl) ?_; clear hF; intro a hF
 refine seq_yl hF (wn_none rfl) rfl rfl (yl_bin hF rfl rfl rfl rfl (fun _ => run_str_neq)) ?_; clear hF; intro a hF
 refine mvN hF rfl rfl rfl rfl rfl ?_; clear hF; intro a hF
 refine fr_split hF (fun hc546 hF => ?_) (fun hc546 hF => ?_)
 ·first | (replace hc546 := of_decide_eq_true hc546) | (replace hc546 := of_decide_eq_false (bnot_t hc546)) | (subst hc546) | (replace hc546 := bnot_t hc546; subst hc546) | (replace hc546 := bnot_t hc546) | skip
  try (have hc546x := hc546; simp only [okS, okI, okW, okP] at hc546x)
  refine skF hF rfl rfl rfl rfl rfl rfl ?_; clear hF; intro a hF
  refine skF hF rfl rfl rfl rfl rfl rfl ?_; clear hF; intro a hF
  refine skF hF rfl rfl rfl rfl rfl rfl ?_; clear hF; intro a hF
  refine skF hF rfl rfl rfl rfl rfl rfl ?_; clear hF; intro a hF
  refine skF hF rfl rfl rfl rfl rfl rfl ?_; clear hF; intro a hF
  refine seq_yl hF (wn_none rfl) rfl rfl (pkT hF rfl rfl rfl) ?_; clear hF; intro a hF
  refine mvN hF rfl rfl rfl rfl rfl ?_; clear hF; intro a hF
  refine skF hF rfl rfl rfl rfl rfl rfl ?_; clear hF; intro a hF
  refine skF hF rfl rfl rfl rfl rfl rfl ?_; clear hF; intro a hF
  refine skF hF rfl rfl rfl rfl rfl rfl ?_; clear hF; intro a hF
  refine skF hF rfl rfl rfl rfl rfl rfl ?_; clear hF; intro a hF
  refine skF hF rfl rfl rfl rfl rfl rfl ?_; clear hF; intro a hF
  refine skF hF rfl rfl rfl rfl rfl rfl ?_; clear hF; intro a hF
  refine skF hF rfl rfl rfl rfl rfl rfl ?_; clear hF; intro a hF
  refine seq_yl hF (wn_none rfl) rfl rfl (pkT hF rfl rfl rfl) ?_; clear hF; intro a hF
  refine wpList_nil ?_
  refine then_n ?_
  refine c_cond_t hF rfl ?_
  refine c_seq ?_
  refine c_region ?_
  refine asN hF rfl rfl rfl rfl rfl ?_; clear hF; intro a hF
  refine wpList_nil ?_
  refine then_n ?_
  refine wp_ret ?_
  refine then_r ?_
  refine ret_t hF rfl rfl ?_
  exact ⟨_, rfl, congrArg Value.bool (dec_f (by rintro ⟨h1, h2, h3⟩; first | exact absurd h1 (by assumption) | omega | (subst h3; omega))), (hS.sub [] (by decide) (by first | rfl | simp) (by simp))⟩
 ·first | (replace hc546 := of_decide_eq_false hc546) | (replace hc546 := of_decide_eq_true (bnot_f hc546)) | (subst hc546) | (replace hc546 := bnot_f hc546; subst hc546) | (replace hc546 := bnot_f hc546) | skip
  try (have hc546x := hc546; simp only [okS, okI, okW, okP] at hc546x)
  refine seq_yl hF (wn_t hF rfl rfl rfl rfl) rfl rfl (yl_fieldAddr hF rfl rfl (fun w => by kernel_rfl : ∀ w, (Instr.fieldAt 43 (.pointer (some ⟨g544, 0, none⟩)) 2).run Try.prog w = .ok (.pointer (some ⟨g544, 2, none⟩)) w)) ?_; clear hF; intro a hF
  refine seq_yl hF (wn_t hF rfl rfl rfl rfl) rfl rfl (yl_load (fun _ h => h ▸ hS) hF rfl rfl 1 rfl ag3 rfl) ?_; clear hF; intro a hF
  refine seq_yl hF (wn_t hF rfl rfl rfl rfl) rfl rfl (yl_fieldAddr hF rfl rfl (fun w => by kernel_rfl : ∀ w, (Instr.fieldAt 43 (.pointer (some ⟨g545, 0, none⟩)) 2).run Try.prog w = .ok (.pointer (some ⟨g545, 2, none⟩)) w)) ?_; clear hF; intro a hF
  refine seq_yl hF (wn_t hF rfl rfl rfl rfl) rfl rfl (yl_load (fun _ h => h ▸ hS) hF rfl rfl 0 rfl ag3 rfl) ?_; clear hF; intro a hF
  refine seq_yl hF (wn_t hF rfl rfl rfl rfl) rfl rfl (yl_bin hF rfl rfl rfl rfl (fun _ => run_neq)) ?_; clear hF; intro a hF
  refine seq_yl hF (wn_none rfl) rfl rfl (pkF hF rfl rfl rfl) ?_; clear hF; intro a hF
  refine mvN hF rfl rfl rfl rfl rfl ?_; clear hF; intro a hF
  refine fr_split hF (fun hc547 hF => ?_) (fun hc547 hF => ?_)
  ·first | (replace hc547 := of_decide_eq_true hc547) | (replace hc547 := of_decide_eq_false (bnot_t hc547)) | (subst hc547) | (replace hc547 := bnot_t hc547; subst hc547) | (replace hc547 := bnot_t hc547) | skip
   try (have hc547x := hc547; simp only [okS, okI, okW, okP] at hc547x)
   refine skF hF rfl rfl rfl rfl rfl rfl ?_; clear hF; intro a hF
   refine skF hF rfl rfl rfl rfl rfl rfl ?_; clear hF; intro a hF
   refine skF hF rfl rfl rfl rfl rfl rfl ?_; clear hF; intro a hF
   refine skF hF rfl rfl rfl rfl rfl rfl ?_; clear hF; intro a hF
   refine skF hF rfl rfl rfl rfl rfl rfl ?_; clear hF; intro a hF
   refine skF hF rfl rfl rfl rfl rfl rfl ?_; clear hF; intro a hF
   refine skF hF rfl rfl rfl rfl rfl rfl ?_; clear hF; intro a hF
   refine seq_yl hF (wn_none rfl) rfl rfl (pkT hF rfl rfl rfl) ?_; clear hF; intro a hF
   refine wpList_nil ?_
   refine then_n ?_
   refine c_cond_t hF rfl ?_
   refine c_seq ?_
   refine c_region ?_
   refine asN hF rfl rfl rfl rfl rfl ?_; clear hF; intro a hF
   refine wpList_nil ?_
   refine then_n ?_
   refine wp_ret ?_
   refine then_r ?_
   refine ret_t hF rfl rfl ?_
   exact ⟨_, rfl, congrArg Value.bool (dec_f (by rintro ⟨h1, h2, h3⟩; first | exact absurd h1 (by assumption) | omega | (subst h3; omega))), (hS.sub [] (by decide) (by first | rfl | simp) (by simp))⟩
  ·first | (replace hc547 := of_decide_eq_false hc547) | (replace hc547 := of_decide_eq_true (bnot_f hc547)) | (subst hc547) | (replace hc547 := bnot_f hc547; subst hc547) | (replace hc547 := bnot_f hc547) | skip
   try (have hc547x := hc547; simp only [okS, okI, okW, okP] at hc547x)
   refine seq_yl hF (wn_t hF rfl rfl rfl rfl) rfl rfl (yl_fieldAddr hF rfl rfl (fun w => by kernel_rfl : ∀ w, (Instr.fieldAt 43 (.pointer (some ⟨g544, 0, none⟩)) 1).run Try.prog w = .ok (.pointer (some ⟨g544, 1, none⟩)) w)) ?_; clear hF; intro a hF
   refine seq_yl hF (wn_t hF rfl rfl rfl rfl) rfl rfl (yl_load (fun _ h => h ▸ hS) hF rfl rfl 1 rfl ag41 rfl) ?_; clear hF; intro a hF
   refine seq_yl hF (wn_t hF rfl rfl rfl rfl) rfl rfl (yl_len hF rfl rfl (fun _ => run_lenRd sl41 (hS.rdRo 2 rfl))) ?_; clear hF; intro a hF
   refine seq_yl hF (wn_t hF rfl rfl rfl rfl) rfl rfl (yl_fieldAddr hF rfl rfl (fun w => by kernel_rfl : ∀ w, (Instr.fieldAt 43 (.pointer (some ⟨g545, 0, none⟩)) 1).run Try.prog w = .ok (.pointer (some ⟨g545, 1, none⟩)) w)) ?_; clear hF; intro a hF
   refine seq_yl hF (wn_t hF rfl rfl rfl rfl) rfl rfl (yl_load (fun _ h => h ▸ hS) hF rfl rfl 0 rfl ag41 rfl) ?_; clear hF; intro a hF
   refine seq_yl hF (wn_t hF rfl rfl rfl rfl) rfl rfl (yl_len hF rfl rfl (fun _ => run_lenRd sl41 (hS.rdRo 3 rfl))) ?_; clear hF; intro a hF
   refine seq_yl hF (wn_t hF rfl rfl rfl rfl) rfl rfl (yl_bin hF rfl rfl rfl rfl (fun _ => run_neq)) ?_; clear hF; intro a hF
   refine seq_yl hF (wn_none rfl) rfl rfl (pkF hF rfl rfl rfl) ?_; clear hF; intro a hF
   refine wpList_nil ?_
   refine then_n ?_
   refine c_cond hF rfl (fun hc548 => ?_) (fun hc548 => ?_)
   ·first | (replace hc548 := of_decide_eq_true hc548) | (replace hc548 := of_decide_eq_false (bnot_t hc548)) | (subst hc548) | (replace hc548 := bnot_t hc548; subst hc548) | (replace hc548 := bnot_t hc548) | skip
    try (have hc548x := hc548; simp only [okS, okI, okW, okP] at hc548x)
    refine c_seq ?_
    refine c_region ?_
    refine asN hF rfl rfl rfl rfl rfl ?_; clear hF; intro a hF
    refine wpList_nil ?_
    refine then_n ?_
    refine wp_ret ?_
    refine then_r ?_
    refine ret_t hF rfl rfl ?_
    exact ⟨_, rfl, congrArg Value.bool (dec_f (by rintro ⟨h1, h2, h3⟩; first | exact absurd h1 (by assumption) | omega | (subst h3; omega))), (hS.sub [] (by decide) (by first | rfl | simp) (by simp))⟩
   ·first | (replace hc548 := of_decide_eq_false hc548) | (replace hc548 := of_decide_eq_true (bnot_f hc548)) | (subst hc548) | (replace hc548 := bnot_f hc548; subst hc548) | (replace hc548 := bnot_f hc548) | skip
    try (have hc548x := hc548; simp only [okS, okI, okW, okP] at hc548x)
    refine wp_skip ?_
    refine then_n ?_
    refine c_seq ?_
    refine c_seq ?_
    refine c_region ?_
    refine asN hF rfl rfl rfl rfl rfl ?_; clear hF; intro a hF
    refine wpList_nil ?_
    refine then_n ?_
    refine wp_block ?_
    refine c_loop (fun m a w => ∃ (k : Nat), m = L.length - k ∧ (k ≤ L.length ∧ L.take k = M.take k) ∧ Fr 45 a [(2, .pointer (some ⟨g544, 0, none⟩)), (3, .pointer (some ⟨g545, 0, none⟩)), (5, .int .i64 ((k : Nat) : Int))] ∧ Sat w0 w (.box g544 43 #[.string st, .slice Alv (L).length clv, .int .i64 (rm)] :: .box g545 43 #[.string sb, .slice Alb (M).length clb, .int .i64 (rb)] :: .ro 2 (.slice Alv (L).length clv) (L).length (cells enc67 (L)) :: .ro 2 (.slice Alb (M).length clb) (M).length (cells enc67 (M)) :: [])) (L.length - 0) ?_ ?_
    ·exact ⟨0, rfl, ⟨Nat.zero_le _, by simp⟩, hF.to [2, 3, 5] rfl, (hS.sub [1, 0, 2, 3] (by decide) (by first | rfl | simp) (by simp))⟩
    ·clear hF hS; try clear hSS
     clear a w; rintro m a w ⟨k, rfl, hinv, hF, hS⟩
     have hk := hinv.1
     refine c_seq ?_
     refine c_seq ?_
     refine c_region ?_
     refine mvN hF rfl rfl rfl rfl rfl ?_; clear hF; intro a hF
     refine seq_yl hF (wn_none rfl) rfl rfl (yl_fieldAddr hF rfl rfl (fun w => by kernel_rfl : ∀ w, (Instr.fieldAt 43 (.pointer (some ⟨g544, 0, none⟩)) 1).run Try.prog w = .ok (.pointer (some ⟨g544, 1, none⟩)) w)) ?_; clear hF; intro a hF
     refine seq_yl hF (wn_none rfl) rfl rfl (yl_load (fun _ h => h ▸ hS) hF rfl rfl 0 rfl ag41 rfl) ?_; clear hF; intro a hF
     refine seq_yl hF (wn_none rfl) rfl rfl (yl_len hF rfl rfl (fun _ => run_lenRd sl41 (hS.rdRo 2 rfl))) ?_; clear hF; intro a hF
     refine seq_yl hF (wn_none rfl) rfl rfl (yl_bin hF rfl rfl rfl rfl (fun _ => run_lss)) ?_; clear hF; intro a hF
     refine wpList_nil ?_
     refine then_n ?_
     refine c_cond hF rfl (fun hc549 => ?_) (fun hc549 => ?_)
     ·first | (replace hc549 := of_decide_eq_true hc549) | (replace hc549 := of_decide_eq_false (bnot_t hc549)) | (subst hc549) | (replace hc549 := bnot_t hc549; subst hc549) | (replace hc549 := bnot_t hc549) | skip
      try (have hc549x := hc549; simp only [okS, okI, okW, okP] at hc549x)
      refine wp_skip ?_
      refine then_n ?_
      refine c_seq ?_
      refine wp_block ?_
      refine c_seq ?_
      refine ha_startS hS [0, 2, 1, 3] 11 (by kernel_rfl) ?_; clear hS; intro w hS
      have hSS := hS.sub [0, 2, 1, 3] (by decide) rfl (by simp)
      refine ha_y 0 hF rfl rfl rfl (wn_none rfl) (.inr hSS) (yl_fieldAddr hF rfl rfl (fun w => by kernel_rfl : ∀ w, (Instr.fieldAt 43 (.pointer (some ⟨g544, 0, none⟩)) 1).run Try.prog w = .ok (.pointer (some ⟨g544, 1, none⟩)) w)) ?_; clear hF; intro a hF
      refine ha_y 2 hF rfl rfl rfl (wn_none rfl) (.inr hSS) (yl_move hF rfl rfl) ?_; clear hF; intro a hF
      refine ha_y 5 hF rfl rfl rfl (wn_none rfl) (.inr hSS) (yl_fieldAddr hF rfl rfl (fun w => by kernel_rfl : ∀ w, (Instr.fieldAt 43 (.pointer (some ⟨g545, 0, none⟩)) 1).run Try.prog w = .ok (.pointer (some ⟨g545, 1, none⟩)) w)) ?_; clear hF; intro a hF
      refine ha_y 7 hF rfl rfl rfl (wn_none rfl) (.inr hSS) (yl_move hF rfl rfl) ?_; clear hF; intro a hF
      refine ha_l 1 hF rfl rfl rfl (wn_none rfl) hSS (yl_load (fun _ h => h) hF rfl rfl 0 rfl ag41 rfl) ?_; clear hF; intro a hF
      have hlt_hx550 : k < (L).length := by first | omega | (simp; done) | (simp; omega)
      obtain ⟨ad551, rfl⟩ := rd_some (hS.rdRo 2 rfl) hlt_hx550
      obtain ⟨x550, hx550⟩ := get_some hlt_hx550
      refine ha_y 3 hF rfl rfl rfl (wn_none rfl) (.inr hSS) (yl_indexAddr hF rfl rfl rfl (fun _ => run_idx' sl41 sz67 (hS.rdRo 2 rfl) hlt_hx550)) ?_; clear hF; intro a hF
      refine ha_l 4 hF rfl rfl rfl (wn_none rfl) hSS (yl_loadEl (rs := [.int .i64 (x550.f0), .string x550.f1]) hF rfl rfl ag67 sz67 rfl (fun _ h => rd_cells (enc := enc67) (Sat.rdRo h 1 rfl) enc67_len hx550)) ?_; clear hF; intro a hF
      refine ha_l 6 hF rfl rfl rfl (wn_none rfl) hSS (yl_load (fun _ h => h) hF rfl rfl 2 rfl ag41 rfl) ?_; clear hF; intro a hF
      have hlt_hx552 : k < (M).length := by first | omega | (simp; done) | (simp; omega)
      obtain ⟨ad553, rfl⟩ := rd_some (hS.rdRo 3 rfl) hlt_hx552
      obtain ⟨x552, hx552⟩ := get_some hlt_hx552
      refine ha_y 8 hF rfl rfl rfl (wn_none rfl) (.inr hSS) (yl_indexAddr hF rfl rfl rfl (fun _ => run_idx' sl41 sz67 (hS.rdRo 3 rfl) hlt_hx552)) ?_; clear hF; intro a hF
      refine ha_l 9 hF rfl rfl rfl (wn_none rfl) hSS (yl_loadEl (rs := [.int .i64 (x552.f0), .string x552.f1]) hF rfl rfl ag67 sz67 rfl (fun _ h => rd_cells (enc := enc67) (Sat.rdRo h 3 rfl) enc67_len hx552)) ?_; clear hF; intro a hF
      refine ha_y 10 hF rfl rfl rfl (wn_none rfl) (.inr hSS) (yl_binA hF rfl rfl rfl (fun w => run_eqGuard_agg w _ _ _ _ _ _ hm67) (fun w => nes67 _ _ _ _ w)) ?_; clear hF; intro a hF
      refine ha_done (by kernel_rfl) ?_ _
      refine then_n ?_
      refine c_cond hF rfl (fun hc554 => ?_) (fun hc554 => ?_)
      ·first | (replace hc554 := of_decide_eq_true hc554) | (replace hc554 := of_decide_eq_false (bnot_t hc554)) | (subst hc554) | (replace hc554 := bnot_t hc554; subst hc554) | (replace hc554 := bnot_t hc554) | skip
       try (have hc554x := hc554; simp only [okS, okI, okW, okP] at hc554x)
       refine c_seq ?_
       refine c_region ?_
       refine asN hF rfl rfl rfl rfl rfl ?_; clear hF; intro a hF
       refine wpList_nil ?_
       refine then_n ?_
       refine wp_ret ?_
       refine inb_r ?_
       refine then_r ?_
       refine then_r ?_
       refine inb_r ?_
       refine then_r ?_
       refine ret_t hF rfl rfl ?_
       exact ⟨_, rfl, congrArg Value.bool (dec_f (by rintro ⟨-, -, h9⟩; subst h9; have h9 := hx552; rw [hx550] at h9; injection h9 with h9; subst h9; rename (¬ (_ ∧ _)) => hne; simp at hne)), (hS.sub [] (by decide) (by first | rfl | simp) (by simp))⟩
      ·first | (replace hc554 := of_decide_eq_false hc554) | (replace hc554 := of_decide_eq_true (bnot_f hc554)) | (subst hc554) | (replace hc554 := bnot_f hc554; subst hc554) | (replace hc554 := bnot_f hc554) | skip
       try (have hc554x := hc554; simp only [okS, okI, okW, okP] at hc554x)
       refine wp_skip ?_
       refine inb_n ?_
       refine then_n ?_
       refine c_region ?_
       refine mvN hF rfl rfl rfl rfl rfl ?_; clear hF; intro a hF
       refine seq_yl hF (wn_none rfl) rfl rfl (yl_bin hF rfl rfl rfl rfl (fun _ => run_inc (by omega))) ?_; clear hF; intro a hF
       refine asN hF rfl rfl rfl rfl rfl ?_; clear hF; intro a hF
       refine wpList_nil ?_
       refine then_n ?_
       exact ⟨_, (by omega), k + 1, rfl, ⟨by omega, take_eq_step hx550 hx552 (E67_ext (Decidable.not_not.1 (by assumption))) hinv.2⟩, hF.to [2, 3, 5] rfl, (hS.sub [0, 1, 2, 3] (by decide) (by first | rfl | simp) (by simp))⟩
     ·first | (replace hc549 := of_decide_eq_false hc549) | (replace hc549 := of_decide_eq_true (bnot_f hc549)) | (subst hc549) | (replace hc549 := bnot_f hc549; subst hc549) | (replace hc549 := bnot_f hc549) | skip
      try (have hc549x := hc549; simp only [okS, okI, okW, okP] at hc549x)
      refine wp_exit ?_
      refine then_x ?_
      refine then_x ?_
      refine inb_x ?_
      refine then_n ?_
      refine c_seq ?_
      refine c_region ?_
      refine asN hF rfl rfl rfl rfl rfl ?_; clear hF; intro a hF
      refine wpList_nil ?_
      refine then_n ?_
      refine wp_ret ?_
      refine ret_t hF rfl rfl ?_
      exact ⟨_, rfl, congrArg Value.bool (dec_t ⟨Decidable.not_not.1 (by assumption), by omega, by have h9 := hinv.2; rwa [List.take_of_length_le (by omega), List.take_of_length_le (by omega)] at h9⟩), (hS.sub [] (by decide) (by first | rfl | simp) (by simp))⟩

end Go.Proofs.Ytkejcnhfbfgphaa

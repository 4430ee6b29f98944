/- walks, printed by wip/gen -/
import Derived.Test.YtkejcnhfbfgphaaY0
import Derived.Test.YtkejcnhfbfgphaaY1
namespace Go.Proofs.Ytkejcnhfbfgphaa
open Go.RowKit
set_option linter.unusedVariables false
set_option linter.unusedSimpArgs false

set_option maxHeartbeats 1000000 in
set_option maxRecDepth 100000 in
theorem flushN_any (st : ByteArray) (lv : Value) (L : List E67) (rm : Int) (w0 : World) (hv : Rd w0 2 lv (L).length (cells enc67 (L))) (hz : (st.size : Int) ≤ 9223372036854775807) (hL : L.length ≤ 1000000) :
  Fn Try.prog 43 #[.agg #[.string st, lv, .int .i64 rm]] w0 (fun v w' => ∃ (st1 : ByteArray) (rm1 : Int), v = .agg #[.string st1, .slice none 0 0, .int .i64 rm1] ∧ flushF st L rm = (st1, rm1) ∧ Sat w0 w' []) := by
 obtain ⟨Alv, clv, rfl⟩ := Rd.form hv
 refine c_enter (N := 28) (l := [_]) Try.func43 rfl rfl (fun a w hF hS => ?_)
 replace hS := hS.addRo hv
 refine c_seq ?_
 refine c_region ?_
 refine seq_wp (wn_none rfl) (wp_box (cs := #[_, _, _]) hF hS rfl rfl rfl rfl rfl ?_)
 clear hF hS; intro a w g700 hF hS
 refine seq_wp (wn_none rfl) (wp_alloc (cs := #[_, _, _]) hF hS rfl rfl rfl zr43 rfl ?_)
 clear hF hS; intro a w g701 hF hS
 refine wpList_nil ?_
 refine then_n ?_
 refine c_seq ?_
 refine c_seq ?_
 refine c_region ?_
 refine seq_yl hF (wn_none rfl) rfl rfl (yl_loadK (rs := [_, _, _]) (fun _ h => h ▸ hS) hF rfl rfl 1 rfl ag43 sz43 rfl rfl) ?_; clear hF; intro a hF
 refine seq_wp (wn_none rfl) (wp_call (vs := [_]) hF rfl rfl rfl rfl cf60 (dValid_any st _ L (rm) _ (hS.rdRo 2 rfl) (by first | omega | (simp; done)) (by first | omega | (simp; done))) ?_)
 clear hF; rintro _ w ⟨rfl, hS1⟩ a hF
 replace hS := hS.callB hS1 rfl; clear hS1
 refine seq_yl hF (wn_none rfl) rfl rfl (yl_un hF rfl rfl (fun _ => run_not)) ?_; clear hF; intro a hF
 refine wpList_nil ?_
 refine then_n ?_
 refine c_cond hF rfl (fun hc702 => ?_) (fun hc702 => ?_)
 ·first | (replace hc702 := of_decide_eq_true hc702) | (replace hc702 := of_decide_eq_false (bnot_t hc702)) | (subst hc702) | (replace hc702 := bnot_t hc702; subst hc702) | (replace hc702 := bnot_t hc702) | skip
  try (have hc702x := hc702; simp only [okS, okI, okW, okP] at hc702x)
  refine c_seq ?_
  refine c_region ?_
  refine seq_yl hF (wn_none rfl) rfl rfl (yl_build (parts := []) (vs := []) (cs := [_, _, _]) hF bd43 rfl rfl rfl rfl) ?_; clear hF; intro a hF
  refine seq_wp (wn_none rfl) (wp_store (cs' := #[_, _, _]) hF hS rfl rfl rfl rfl 0 rfl sz43 (by simp [Value.cells, Value.oneCell']) (by simp [Value.cells]) rfl ?_)
  clear hF hS; intro a w hF hS
  refine wpList_nil ?_
  refine then_n ?_
  refine wp_ret ?_
  refine then_r ?_
  refine ret_c hF rfl (resC hS rfl 0 rfl ag43 sz43) ?_
  exact ⟨_, rfl, _, _, rfl, fl_bad (by assumption), (hS.sub [] (by decide) (by first | rfl | simp) (by simp))⟩
 ·first | (replace hc702 := of_decide_eq_false hc702) | (replace hc702 := of_decide_eq_true (bnot_f hc702)) | (subst hc702) | (replace hc702 := bnot_f hc702; subst hc702) | (replace hc702 := bnot_f hc702) | skip
  try (have hc702x := hc702; simp only [okS, okI, okW, okP] at hc702x)
  refine wp_skip ?_
  refine then_n ?_
  refine c_seq ?_
  refine c_region ?_
  refine seq_yl hF (wn_none rfl) rfl rfl (yl_loadK (rs := [_, _, _]) (fun _ h => h ▸ hS) hF rfl rfl 1 rfl ag43 sz43 rfl rfl) ?_; clear hF; intro a hF
  refine seq_yl hF (wn_none rfl) rfl rfl (yl_build (parts := [(0, .tmp 8)]) (vs := [(0, _)]) (cs := [_, _, _]) hF bd93 rfl rfl rfl rfl) ?_; clear hF; intro a hF
  refine seq_wp (wn_none rfl) (wp_box (cs := #[_, _, _]) hF hS rfl rfl rfl rfl rfl ?_)
  clear hF hS; intro a w g703 hF hS
  refine asN hF rfl rfl rfl rfl rfl ?_; clear hF; intro a hF
  refine wpList_nil ?_
  refine then_n ?_
  refine c_seq ?_
  refine wp_block ?_
  have hd9 : okD st L rm := by assumption
  refine c_loop (fun m a w => ∃ (st1 : ByteArray) (L1 : List E67) (AvW : Option Addr) (cvW : Nat), m = L1.length ∧ (okD st1 L1 rm ∧ flSt st L = flSt st1 L1) ∧ Fr 28 a [(3, .pointer (some ⟨g703, 0, none⟩)), (2, .pointer (some ⟨g701, 0, none⟩))] ∧ Sat w0 w (.box g703 93 #[.string st1, .slice AvW (L1).length cvW, .int .i64 (rm)] :: .box g701 43 #[.string (⟨#[]⟩ : ByteArray), .slice none 0 0, .int .i64 (0 : Int)] :: .ro 2 (.slice AvW (L1).length cvW) (L1).length (cells enc67 (L1)) :: [])) (L.length) ?_ ?_
  ·exact ⟨st, L, Alv, clv, rfl, ⟨hd9, rfl⟩, hF.to [3, 2] rfl, (hS.sub [0, 1, 3] (by decide) (by first | rfl | simp) (by simp))⟩
  ·clear hF hS; try clear hSS
   clear a w; rintro m a w ⟨st1, L1, AvW, cvW, rfl, hinv, hF, hS⟩
   obtain ⟨hd1, hfl⟩ := hinv
   have hd1i := okD_I hd1
   refine c_seq ?_
   refine c_seq ?_
   refine c_region ?_
   refine mvN hF rfl rfl rfl rfl rfl ?_; clear hF; intro a hF
   refine seq_yl hF (wn_none rfl) rfl rfl (yl_nilCheck hF rfl rfl) ?_; clear hF; intro a hF
   refine seq_yl hF (wn_none rfl) rfl rfl (yl_fieldAddr hF rfl rfl (fun w => by kernel_rfl : ∀ w, (Instr.fieldAt 93 (.pointer (some ⟨g703, 0, none⟩)) 0).run Try.prog w = .ok (.pointer (some ⟨g703, 0, none⟩)) w)) ?_; clear hF; intro a hF
   refine seq_yl hF (wn_none rfl) rfl rfl (yl_fieldAddr hF rfl rfl (fun w => by kernel_rfl : ∀ w, (Instr.fieldAt 43 (.pointer (some ⟨g703, 0, none⟩)) 1).run Try.prog w = .ok (.pointer (some ⟨g703, 1, none⟩)) w)) ?_; clear hF; intro a hF
   refine seq_yl hF (wn_none rfl) rfl rfl (yl_load (fun _ h => h ▸ hS) hF rfl rfl 0 rfl ag41 rfl) ?_; clear hF; intro a hF
   refine seq_yl hF (wn_none rfl) rfl rfl (yl_len hF rfl rfl (fun _ => run_lenRd sl41 (hS.rdRo 2 rfl))) ?_; clear hF; intro a hF
   refine seq_yl hF (wn_none rfl) rfl rfl (yl_bin hF rfl rfl rfl rfl (fun _ => run_gtr)) ?_; clear hF; intro a hF
   refine wpList_nil ?_
   refine then_n ?_
   refine c_cond hF rfl (fun hc704 => ?_) (fun hc704 => ?_)
   ·first | (replace hc704 := of_decide_eq_true hc704) | (replace hc704 := of_decide_eq_false (bnot_t hc704)) | (subst hc704) | (replace hc704 := bnot_t hc704; subst hc704) | (replace hc704 := bnot_t hc704) | skip
    try (have hc704x := hc704; simp only [okS, okI, okW, okP] at hc704x)
    refine wp_skip ?_
    refine then_n ?_
    refine wp_block ?_
    refine c_region ?_
    refine mvN hF rfl rfl rfl rfl rfl ?_; clear hF; intro a hF
    replace hS := (hS.sub [0, 2, 1] (by decide) (by first | rfl | simp) (by simp))
    obtain ⟨p706, hp706⟩ := get_some (L := L1) (k := 0) (by have h8 := okD_I hd1; omega)
    refine seq_wp (wn_none rfl) (wp_call (vs := [_, _]) hF rfl rfl rfl rfl cf67 (destage_any _ _ _ _ _ _ _ L1 _ 0 p706 hp706 (hd1.2.2.2 _ (List.mem_of_getElem? hp706)) hS (by omega)) ?_)
    clear hF hS; rintro _ w ⟨v705, rfl, hS⟩ a hF
    have hq707k := dest_ok hd1 hp706
    have hq707n := len_selL (s := p706.f0) (old := (fun i => decide (i ≤ ((0 : Nat) : Int)))) L1 0
    have hq707f := fl_step (st := st1) hp706
    obtain ⟨Av705, cv705, rfl⟩ := hS.form 1 rfl
    refine wpList_nil ?_
    refine inb_n ?_
    refine then_n ?_
    replace hS := hS.toRo 1 rfl
    exact ⟨_, (by omega), (wim st1 p706.f0 p706.f1), (selL p706.f0 (fun i => decide (i ≤ ((0 : Nat) : Int))) 0 L1), Av705, cv705, rfl, ⟨hq707k.1, hfl.trans hq707f.1⟩, hF.to [3, 2] rfl, (hS.sub [0, 2, 1] (by decide) (by first | rfl | simp) (by simp))⟩
   ·first | (replace hc704 := of_decide_eq_false hc704) | (replace hc704 := of_decide_eq_true (bnot_f hc704)) | (subst hc704) | (replace hc704 := bnot_f hc704; subst hc704) | (replace hc704 := bnot_f hc704) | skip
    try (have hc704x := hc704; simp only [okS, okI, okW, okP] at hc704x)
    refine wp_exit ?_
    refine then_x ?_
    refine then_x ?_
    refine inb_x ?_
    refine then_n ?_
    refine c_seq ?_
    refine c_region ?_
    refine mvN hF rfl rfl rfl rfl rfl ?_; clear hF; intro a hF
    refine seq_yl hF (wn_none rfl) rfl rfl (yl_nilCheck hF rfl rfl) ?_; clear hF; intro a hF
    refine seq_yl hF (wn_none rfl) rfl rfl (yl_fieldAddr hF rfl rfl (fun w => by kernel_rfl : ∀ w, (Instr.fieldAt 93 (.pointer (some ⟨g703, 0, none⟩)) 0).run Try.prog w = .ok (.pointer (some ⟨g703, 0, none⟩)) w)) ?_; clear hF; intro a hF
    refine seq_yl hF (wn_none rfl) rfl rfl (yl_fieldAddr hF rfl rfl (fun w => by kernel_rfl : ∀ w, (Instr.fieldAt 43 (.pointer (some ⟨g703, 0, none⟩)) 1).run Try.prog w = .ok (.pointer (some ⟨g703, 1, none⟩)) w)) ?_; clear hF; intro a hF
    refine seq_wp (wn_none rfl) (wp_store (cs' := #[_, _, _]) hF hS rfl rfl rfl rfl 0 rfl sz41 (by simp [Value.cells, Value.oneCell']) (by simp [Value.cells]) rfl ?_)
    clear hF hS; intro a w hF hS
    refine wpList_nil ?_
    refine then_n ?_
    refine c_seq ?_
    refine c_region ?_
    refine mvN hF rfl rfl rfl rfl rfl ?_; clear hF; intro a hF
    refine seq_yl hF (wn_none rfl) rfl rfl (yl_nilCheck hF rfl rfl) ?_; clear hF; intro a hF
    refine seq_yl hF (wn_none rfl) rfl rfl (yl_fieldAddr hF rfl rfl (fun w => by kernel_rfl : ∀ w, (Instr.fieldAt 93 (.pointer (some ⟨g703, 0, none⟩)) 0).run Try.prog w = .ok (.pointer (some ⟨g703, 0, none⟩)) w)) ?_; clear hF; intro a hF
    refine seq_yl hF (wn_none rfl) rfl rfl (yl_loadK (rs := [_, _, _]) (fun _ h => h ▸ hS) hF rfl rfl 0 rfl ag43 sz43 rfl rfl) ?_; clear hF; intro a hF
    refine seq_wp (wn_none rfl) (wp_store (cs' := #[_, _, _]) hF hS rfl rfl rfl rfl 1 rfl sz43 (by simp [Value.cells, Value.oneCell']) (by simp [Value.cells]) rfl ?_)
    clear hF hS; intro a w hF hS
    refine wpList_nil ?_
    refine then_n ?_
    refine wp_ret ?_
    refine ret_c hF rfl (resC hS rfl 1 rfl ag43 sz43) ?_
    exact ⟨_, rfl, _, _, rfl, flush_end hd9 hfl (by omega), (hS.sub [] (by decide) (by first | rfl | simp) (by simp))⟩

set_option maxHeartbeats 2000000 in
set_option maxRecDepth 100000 in
theorem run_any (st : ByteArray) (lv : Value) (L : List E67) (rm : Int) (i0 k s c : Int) (x : ByteArray) (fua : Bool) (bg en er dn : Int) (hf : Bool) (dl : Int) (w0 : World) (hv : Rd w0 2 lv (L).length (cells enc67 (L))) (hz : (st.size : Int) ≤ 9223372036854775807) (hL : L.length ≤ 1000000) (hx : (x.size : Int) ≤ 9223372036854775807) :
  Fn Try.prog 21 #[.agg #[.string st, lv, .int .i64 rm], .agg #[.int .i64 i0, .int .i64 k, .int .i64 s, .int .i64 c, .string x, .bool fua, .int .i64 bg, .int .i64 en, .int .i64 er, .int .i64 dn, .bool hf, .int .i64 dl]] w0 (fun v w' => ∃ (st1 : ByteArray) (lv1 : Value) (L1 : List E67) (rm1 : Int) (dt : ByteArray) (e1 : Int), v = .tuple #[.agg #[.string st1, lv1, .int .i64 rm1], .string dt, .int .i64 e1] ∧ runF st L rm k s c x fua er dn hf = (st1, L1, rm1, dt, e1) ∧ Sat w0 w' [.row 67 2 lv1 (L1).length (cells enc67 (L1))]) := by
 obtain ⟨Alv, clv, rfl⟩ := Rd.form hv
 refine c_enter (N := 73) (l := [_, _]) Try.func21 rfl rfl (fun a w hF hS => ?_)
 replace hS := hS.addRo hv
 refine c_seq ?_
 refine c_region ?_
 refine seq_wp (wn_none rfl) (wp_box (cs := #[_, _, _]) hF hS rfl rfl rfl rfl rfl ?_)
 clear hF hS; intro a w g708 hF hS
 refine seq_wp (wn_none rfl) (wp_box (cs := #[_, _, _, _, _, _, _, _, _, _, _, _]) hF hS rfl rfl rfl rfl rfl ?_)
 clear hF hS; intro a w g709 hF hS
 refine seq_wp (wn_none rfl) (wp_alloc (cs := #[_, _, _]) hF hS rfl rfl rfl zr43 rfl ?_)
 clear hF hS; intro a w g710 hF hS
 refine asN hF rfl rfl rfl rfl rfl ?_; clear hF; intro a hF
 refine asN hF rfl rfl rfl rfl rfl ?_; clear hF; intro a hF
 refine wpList_nil ?_
 refine then_n ?_
 refine c_seq ?_
 refine c_region ?_
 refine seq_yl hF (wn_none rfl) rfl rfl (yl_fieldAddr hF rfl rfl (fun w => by kernel_rfl : ∀ w, (Instr.fieldAt 45 (.pointer (some ⟨g709, 0, none⟩)) 8).run Try.prog w = .ok (.pointer (some ⟨g709, 8, none⟩)) w)) ?_; clear hF; intro a hF
 refine seq_yl hF (wn_none rfl) rfl rfl (yl_fieldAddr hF rfl rfl (fun w => by kernel_rfl : ∀ w, (Instr.fieldAt 27 (.pointer (some ⟨g709, 8, none⟩)) 0).run Try.prog w = .ok (.pointer (some ⟨g709, 8, none⟩)) w)) ?_; clear hF; intro a hF
 refine seq_yl hF (wn_none rfl) rfl rfl (yl_load (fun _ h => h ▸ hS) hF rfl rfl 1 rfl ag25 rfl) ?_; clear hF; intro a hF
 refine asN hF rfl rfl rfl rfl rfl ?_; clear hF; intro a hF
 refine wpList_nil ?_
 refine then_n ?_
 refine c_seq ?_
 refine c_region ?_
 refine seq_yl hF (wn_none rfl) rfl rfl (yl_fieldAddr hF rfl rfl (fun w => by kernel_rfl : ∀ w, (Instr.fieldAt 43 (.pointer (some ⟨g708, 0, none⟩)) 1).run Try.prog w = .ok (.pointer (some ⟨g708, 1, none⟩)) w)) ?_; clear hF; intro a hF
 refine seq_yl hF (wn_none rfl) rfl rfl (yl_load (fun _ h => h ▸ hS) hF rfl rfl 2 rfl ag41 rfl) ?_; clear hF; intro a hF
 refine seq_wp (wn_none rfl) (wp_call (vs := [_]) hF rfl rfl rfl rfl cf38 (cloneP_any _ _ _ (hS.rdRo 3 rfl) (by first | omega | (simp; done) | (simp; omega))) ?_)
 clear hF; rintro _ w ⟨v711, rfl, hS1⟩ a hF
 replace hS := hS.callB hS1 rfl; clear hS1
 obtain ⟨Av711, cv711, rfl⟩ := hS.form 0 rfl
 refine seq_yl hF (wn_none rfl) rfl rfl (yl_fieldAddr hF rfl rfl (fun w => by kernel_rfl : ∀ w, (Instr.fieldAt 43 (.pointer (some ⟨g708, 0, none⟩)) 1).run Try.prog w = .ok (.pointer (some ⟨g708, 1, none⟩)) w)) ?_; clear hF; intro a hF
 refine seq_wp (wn_none rfl) (wp_store (cs' := #[_, _, _]) hF hS rfl rfl rfl rfl 3 rfl sz41 (by simp [Value.cells, Value.oneCell']) (by simp [Value.cells]) rfl ?_)
 clear hF hS; intro a w hF hS
 refine wpList_nil ?_
 refine then_n ?_
 refine c_seq ?_
 refine wp_block ?_
 refine c_seq ?_
 refine c_region ?_
 refine seq_yl hF (wn_none rfl) rfl rfl (yl_loadK (rs := [_, _, _]) (fun _ h => h ▸ hS) hF rfl rfl 3 rfl ag43 sz43 rfl rfl) ?_; clear hF; intro a hF
 refine seq_yl hF (wn_none rfl) rfl rfl (yl_loadK (rs := [_, _, _, _, _, _, _, _, _, _, _, _]) (fun _ h => h ▸ hS) hF rfl rfl 2 rfl ag45 sz45 rfl rfl) ?_; clear hF; intro a hF
 refine seq_wp (wn_none rfl) (wp_call (vs := [_, _]) hF rfl rfl rfl rfl cf39 (fits_any st _ L (rm) (i0) (k) (s) (c) x fua (bg) (en) (er) (dn) hf (dl) _ (hS.rdRow 0 rfl) (by first | omega | (simp; done)) (by first | omega | (simp; done)) (by first | omega | (simp; done))) ?_)
 clear hF; rintro _ w ⟨rfl, hS1⟩ a hF
 replace hS := hS.callB hS1 rfl; clear hS1
 refine seq_yl hF (wn_none rfl) rfl rfl (yl_un hF rfl rfl (fun _ => run_not)) ?_; clear hF; intro a hF
 refine asN hF rfl rfl rfl rfl rfl ?_; clear hF; intro a hF
 refine wpList_nil ?_
 refine then_n ?_
 refine c_cond hF rfl (fun hc712 => ?_) (fun hc712 => ?_)
 ·first | (replace hc712 := of_decide_eq_true hc712) | (replace hc712 := of_decide_eq_false (bnot_t hc712)) | (replace hc712 := bnot_t hc712) | skip
  try (have hc712x := hc712; simp only [okS, okI, okW, okP] at hc712x)
  refine c_seq ?_
  refine c_region ?_
  refine seq_yl hF (wn_none rfl) rfl rfl (yl_loadK (rs := [_, _, _]) (fun _ h => h ▸ hS) hF rfl rfl 3 rfl ag43 sz43 rfl rfl) ?_; clear hF; intro a hF
  refine seq_wp (wn_none rfl) (wp_store (cs' := #[_, _, _]) hF hS rfl rfl rfl rfl 1 rfl sz43 (by simp [Value.cells, Value.oneCell']) (by simp [Value.cells]) rfl ?_)
  clear hF hS; intro a w hF hS
  refine asN hF rfl rfl rfl rfl rfl ?_; clear hF; intro a hF
  refine asN hF rfl rfl rfl rfl rfl ?_; clear hF; intro a hF
  refine wpList_nil ?_
  refine then_n ?_
  refine wp_ret ?_
  refine inb_r ?_
  refine then_r ?_
  refine ret_ctt hF rfl (resC hS rfl 1 rfl ag43 sz43) rfl rfl ?_
  exact ⟨_, rfl, _, _, _, _, _, _, rfl, run_bad (by assumption), (hS.sub [0] (by decide) (by first | rfl | simp) (by simp))⟩
 ·first | (replace hc712 := of_decide_eq_false hc712) | (replace hc712 := of_decide_eq_true (bnot_f hc712)) | (replace hc712 := bnot_f hc712) | skip
  try (have hc712x := hc712; simp only [okS, okI, okW, okP] at hc712x)
  refine c_seq ?_
  refine c_region ?_
  have hfit : fitsP st L rm k s c x := by assumption
  have hfd := okD_I hfit.1
  refine mvN hF rfl rfl rfl rfl rfl ?_; clear hF; intro a hF
  refine seq_yl hF (wn_none rfl) rfl rfl (yl_bin hF rfl rfl rfl rfl (fun _ => run_neq)) ?_; clear hF; intro a hF
  refine mvN hF rfl rfl rfl rfl rfl ?_; clear hF; intro a hF
  refine fr_split hF (fun hc713 hF => ?_) (fun hc713 hF => ?_)
  ·first | (replace hc713 := of_decide_eq_true hc713) | (replace hc713 := of_decide_eq_false (bnot_t hc713)) | (replace hc713 := bnot_t hc713) | skip
   try (have hc713x := hc713; simp only [okS, okI, okW, okP] at hc713x)
   refine seq_yl hF (wn_t hF rfl rfl rfl rfl) rfl rfl (yl_fieldAddr hF rfl rfl (fun w => by kernel_rfl : ∀ w, (Instr.fieldAt 45 (.pointer (some ⟨g709, 0, none⟩)) 1).run Try.prog w = .ok (.pointer (some ⟨g709, 1, none⟩)) w)) ?_; clear hF; intro a hF
   refine seq_yl hF (wn_t hF rfl rfl rfl rfl) rfl rfl (yl_load (fun _ h => h ▸ hS) hF rfl rfl 2 rfl ag3 rfl) ?_; clear hF; intro a hF
   refine seq_yl hF (wn_t hF rfl rfl rfl rfl) rfl rfl (yl_bin hF rfl rfl rfl rfl (fun _ => run_eql)) ?_; clear hF; intro a hF
   refine seq_yl hF (wn_none rfl) rfl rfl (pkT hF rfl rfl rfl) ?_; clear hF; intro a hF
   refine asN hF rfl rfl rfl rfl rfl ?_; clear hF; intro a hF
   refine wpList_nil ?_
   refine then_n ?_
   refine c_cond hF rfl (fun hc714 => ?_) (fun hc714 => ?_)
   ·first | (replace hc714 := of_decide_eq_true hc714) | (replace hc714 := of_decide_eq_false (bnot_t hc714)) | (replace hc714 := bnot_t hc714) | skip
    try (have hc714x := hc714; simp only [okS, okI, okW, okP] at hc714x)
    refine c_seq ?_
    refine c_region ?_
    refine seq_yl hF (wn_none rfl) rfl rfl (yl_loadK (rs := [_, _, _]) (fun _ h => h ▸ hS) hF rfl rfl 3 rfl ag43 sz43 rfl rfl) ?_; clear hF; intro a hF
    refine seq_yl hF (wn_none rfl) rfl rfl (yl_loadK (rs := [_, _, _, _, _, _, _, _, _, _, _, _]) (fun _ h => h ▸ hS) hF rfl rfl 2 rfl ag45 sz45 rfl rfl) ?_; clear hF; intro a hF
    refine seq_wp (wn_none rfl) (wp_call (vs := [_, _]) hF rfl rfl rfl rfl cf40 (torn_any _ _ _ st _ _ L (rm) (i0) (k) (s) (c) x fua (bg) (en) (er) (dn) hf (dl) hS (by exact hfit.1) (by have h9 := hfit.2; rcases h9 with h9 | h9 | h9; omega; omega; exact h9.2.1) (by have h9 := hfit.2; rcases h9 with h9 | h9 | h9; omega; omega; exact h9.2.2)) ?_)
    clear hF hS; rintro _ w ⟨st715, v716, Lq717, rm718, rfl, hq719, hS⟩ a hF
    obtain ⟨Av716, cv716, rfl⟩ := hS.form 0 rfl
    refine mvN hF rfl rfl rfl rfl rfl ?_; clear hF; intro a hF
    refine seq_wp (wn_none rfl) (wp_store (cs' := #[_, _, _]) hF hS rfl rfl rfl rfl 1 rfl sz43 (by simp [Value.cells, Value.oneCell']) (by simp [Value.cells]) rfl ?_)
    clear hF hS; intro a w hF hS
    refine asN hF rfl rfl rfl rfl rfl ?_; clear hF; intro a hF
    refine asN hF rfl rfl rfl rfl rfl ?_; clear hF; intro a hF
    refine wpList_nil ?_
    refine then_n ?_
    refine wp_ret ?_
    refine inb_r ?_
    refine then_r ?_
    refine ret_ctt hF rfl (resC hS rfl 1 rfl ag43 sz43) rfl rfl ?_
    exact ⟨_, rfl, _, _, _, _, _, _, rfl, run_torn hfit (by omega) (by omega) hq719, (hS.sub [0] (by decide) (by first | rfl | simp) (by simp))⟩
   ·first | (replace hc714 := of_decide_eq_false hc714) | (replace hc714 := of_decide_eq_true (bnot_f hc714)) | (replace hc714 := bnot_f hc714) | skip
    try (have hc714x := hc714; simp only [okS, okI, okW, okP] at hc714x)
    refine c_seq ?_
    refine c_region ?_
    refine mvN hF rfl rfl rfl rfl rfl ?_; clear hF; intro a hF
    refine seq_yl hF (wn_none rfl) rfl rfl (yl_bin hF rfl rfl rfl rfl (fun _ => run_neq)) ?_; clear hF; intro a hF
    refine asN hF rfl rfl rfl rfl rfl ?_; clear hF; intro a hF
    refine wpList_nil ?_
    refine then_n ?_
    refine c_cond hF rfl (fun hc720 => ?_) (fun hc720 => ?_)
    ·first | (replace hc720 := of_decide_eq_true hc720) | (replace hc720 := of_decide_eq_false (bnot_t hc720)) | (replace hc720 := bnot_t hc720) | skip
     try (have hc720x := hc720; simp only [okS, okI, okW, okP] at hc720x)
     refine c_seq ?_
     refine c_region ?_
     refine seq_yl hF (wn_none rfl) rfl rfl (yl_loadK (rs := [_, _, _]) (fun _ h => h ▸ hS) hF rfl rfl 3 rfl ag43 sz43 rfl rfl) ?_; clear hF; intro a hF
     refine mvN hF rfl rfl rfl rfl rfl ?_; clear hF; intro a hF
     refine seq_wp (wn_none rfl) (wp_store (cs' := #[_, _, _]) hF hS rfl rfl rfl rfl 1 rfl sz43 (by simp [Value.cells, Value.oneCell']) (by simp [Value.cells]) rfl ?_)
     clear hF hS; intro a w hF hS
     refine asN hF rfl rfl rfl rfl rfl ?_; clear hF; intro a hF
     refine asN hF rfl rfl rfl rfl rfl ?_; clear hF; intro a hF
     refine wpList_nil ?_
     refine then_n ?_
     refine wp_ret ?_
     refine inb_r ?_
     refine then_r ?_
     refine ret_ctt hF rfl (resC hS rfl 1 rfl ag43 sz43) rfl rfl ?_
     exact ⟨_, rfl, _, _, _, _, _, _, rfl, run_err hfit (by omega) (by omega), (hS.sub [0] (by decide) (by first | rfl | simp) (by simp))⟩
    ·first | (replace hc720 := of_decide_eq_false hc720) | (replace hc720 := of_decide_eq_true (bnot_f hc720)) | (replace hc720 := bnot_f hc720) | skip
     try (have hc720x := hc720; simp only [okS, okI, okW, okP] at hc720x)
     refine c_seq ?_
     refine c_region ?_
     refine seq_yl hF (wn_none rfl) rfl rfl (yl_fieldAddr hF rfl rfl (fun w => by kernel_rfl : ∀ w, (Instr.fieldAt 45 (.pointer (some ⟨g709, 0, none⟩)) 1).run Try.prog w = .ok (.pointer (some ⟨g709, 1, none⟩)) w)) ?_; clear hF; intro a hF
     refine seq_yl hF (wn_none rfl) rfl rfl (yl_load (fun _ h => h ▸ hS) hF rfl rfl 2 rfl ag3 rfl) ?_; clear hF; intro a hF
     refine seq_yl hF (wn_none rfl) rfl rfl (yl_bin hF rfl rfl rfl rfl (fun _ => run_eql)) ?_; clear hF; intro a hF
     refine asN hF rfl rfl rfl rfl rfl ?_; clear hF; intro a hF
     refine wpList_nil ?_
     refine then_n ?_
     refine c_cond hF rfl (fun hc721 => ?_) (fun hc721 => ?_)
     ·first | (replace hc721 := of_decide_eq_true hc721) | (replace hc721 := of_decide_eq_false (bnot_t hc721)) | (replace hc721 := bnot_t hc721) | skip
      try (have hc721x := hc721; simp only [okS, okI, okW, okP] at hc721x)
      refine c_seq ?_
      refine c_region ?_
      refine seq_yl hF (wn_none rfl) rfl rfl (yl_loadK (rs := [_, _, _]) (fun _ h => h ▸ hS) hF rfl rfl 3 rfl ag43 sz43 rfl rfl) ?_; clear hF; intro a hF
      refine seq_yl hF (wn_none rfl) rfl rfl (yl_fieldAddr hF rfl rfl (fun w => by kernel_rfl : ∀ w, (Instr.fieldAt 45 (.pointer (some ⟨g709, 0, none⟩)) 2).run Try.prog w = .ok (.pointer (some ⟨g709, 2, none⟩)) w)) ?_; clear hF; intro a hF
      refine seq_yl hF (wn_none rfl) rfl rfl (yl_load (fun _ h => h ▸ hS) hF rfl rfl 2 rfl ag3 rfl) ?_; clear hF; intro a hF
      refine seq_yl hF (wn_none rfl) rfl rfl (yl_fieldAddr hF rfl rfl (fun w => by kernel_rfl : ∀ w, (Instr.fieldAt 45 (.pointer (some ⟨g709, 0, none⟩)) 3).run Try.prog w = .ok (.pointer (some ⟨g709, 3, none⟩)) w)) ?_; clear hF; intro a hF
      refine seq_yl hF (wn_none rfl) rfl rfl (yl_load (fun _ h => h ▸ hS) hF rfl rfl 2 rfl ag3 rfl) ?_; clear hF; intro a hF
      refine seq_wp (wn_none rfl) (wp_call (vs := [_, _, _]) hF rfl rfl rfl rfl cf41 (read_any st _ L (rm) (s) (c) _ (hS.rdRow 0 rfl) (by first | omega | (simp; done)) (by first | omega | (simp; done))) ?_)
      clear hF; rintro _ w ⟨rfl, hS1⟩ a hF
      replace hS := hS.callB hS1 rfl; clear hS1
      have hz722 := readF_bd st L (rm) (s) (c)
      refine mvN hF rfl rfl rfl rfl rfl ?_; clear hF; intro a hF
      refine seq_yl hF (wn_none rfl) rfl rfl (yl_extract hF rfl rfl rfl) ?_; clear hF; intro a hF
      refine seq_yl hF (wn_none rfl) rfl rfl (yl_extract hF rfl rfl rfl) ?_; clear hF; intro a hF
      refine asN hF rfl rfl rfl rfl rfl ?_; clear hF; intro a hF
      refine asN hF rfl rfl rfl rfl rfl ?_; clear hF; intro a hF
      refine wpList_nil ?_
      refine then_n ?_
      refine c_seq ?_
      refine c_region ?_
      refine seq_yl hF (wn_none rfl) rfl rfl (yl_loadK (rs := [_, _, _]) (fun _ h => h ▸ hS) hF rfl rfl 3 rfl ag43 sz43 rfl rfl) ?_; clear hF; intro a hF
      refine mvN hF rfl rfl rfl rfl rfl ?_; clear hF; intro a hF
      refine seq_wp (wn_none rfl) (wp_store (cs' := #[_, _, _]) hF hS rfl rfl rfl rfl 1 rfl sz43 (by simp [Value.cells, Value.oneCell']) (by simp [Value.cells]) rfl ?_)
      clear hF hS; intro a w hF hS
      refine asN hF rfl rfl rfl rfl rfl ?_; clear hF; intro a hF
      refine asN hF rfl rfl rfl rfl rfl ?_; clear hF; intro a hF
      refine wpList_nil ?_
      refine then_n ?_
      refine wp_ret ?_
      refine inb_r ?_
      refine then_r ?_
      refine ret_ctt hF rfl (resC hS rfl 1 rfl ag43 sz43) rfl rfl ?_
      exact ⟨_, rfl, _, _, _, _, _, _, rfl, run_read hfit (by omega) (by omega), (hS.sub [0] (by decide) (by first | rfl | simp) (by simp))⟩
     ·first | (replace hc721 := of_decide_eq_false hc721) | (replace hc721 := of_decide_eq_true (bnot_f hc721)) | (replace hc721 := bnot_f hc721) | skip
      try (have hc721x := hc721; simp only [okS, okI, okW, okP] at hc721x)
      refine c_seq ?_
      refine c_region ?_
      refine seq_yl hF (wn_none rfl) rfl rfl (yl_fieldAddr hF rfl rfl (fun w => by kernel_rfl : ∀ w, (Instr.fieldAt 45 (.pointer (some ⟨g709, 0, none⟩)) 1).run Try.prog w = .ok (.pointer (some ⟨g709, 1, none⟩)) w)) ?_; clear hF; intro a hF
      refine seq_yl hF (wn_none rfl) rfl rfl (yl_load (fun _ h => h ▸ hS) hF rfl rfl 2 rfl ag3 rfl) ?_; clear hF; intro a hF
      refine seq_yl hF (wn_none rfl) rfl rfl (yl_bin hF rfl rfl rfl rfl (fun _ => run_eql)) ?_; clear hF; intro a hF
      refine asN hF rfl rfl rfl rfl rfl ?_; clear hF; intro a hF
      refine wpList_nil ?_
      refine then_n ?_
      refine c_cond hF rfl (fun hc723 => ?_) (fun hc723 => ?_)
      ·first | (replace hc723 := of_decide_eq_true hc723) | (replace hc723 := of_decide_eq_false (bnot_t hc723)) | (replace hc723 := bnot_t hc723) | skip
       try (have hc723x := hc723; simp only [okS, okI, okW, okP] at hc723x)
       refine c_seq ?_
       refine c_region ?_
       refine seq_yl hF (wn_none rfl) rfl rfl (yl_loadK (rs := [_, _, _]) (fun _ h => h ▸ hS) hF rfl rfl 3 rfl ag43 sz43 rfl rfl) ?_; clear hF; intro a hF
       refine seq_yl hF (wn_none rfl) rfl rfl (yl_fieldAddr hF rfl rfl (fun w => by kernel_rfl : ∀ w, (Instr.fieldAt 45 (.pointer (some ⟨g709, 0, none⟩)) 2).run Try.prog w = .ok (.pointer (some ⟨g709, 2, none⟩)) w)) ?_; clear hF; intro a hF
       refine seq_yl hF (wn_none rfl) rfl rfl (yl_load (fun _ h => h ▸ hS) hF rfl rfl 2 rfl ag3 rfl) ?_; clear hF; intro a hF
       refine seq_yl hF (wn_none rfl) rfl rfl (yl_fieldAddr hF rfl rfl (fun w => by kernel_rfl : ∀ w, (Instr.fieldAt 45 (.pointer (some ⟨g709, 0, none⟩)) 4).run Try.prog w = .ok (.pointer (some ⟨g709, 4, none⟩)) w)) ?_; clear hF; intro a hF
       refine seq_yl hF (wn_none rfl) rfl rfl (yl_load (fun _ h => h ▸ hS) hF rfl rfl 2 rfl ag9 rfl) ?_; clear hF; intro a hF
       refine seq_yl hF (wn_none rfl) rfl rfl (yl_fieldAddr hF rfl rfl (fun w => by kernel_rfl : ∀ w, (Instr.fieldAt 45 (.pointer (some ⟨g709, 0, none⟩)) 5).run Try.prog w = .ok (.pointer (some ⟨g709, 5, none⟩)) w)) ?_; clear hF; intro a hF
       refine seq_yl hF (wn_none rfl) rfl rfl (yl_load (fun _ h => h ▸ hS) hF rfl rfl 2 rfl ag4 rfl) ?_; clear hF; intro a hF
       refine seq_wp (wn_none rfl) (wp_call (vs := [_, _, _, _]) hF rfl rfl rfl rfl cf42 (write_any st _ L (rm) (s) x fua _ (hS.rdRow 0 rfl) (by first | omega | (simp; done)) (by first | omega | (simp; done)) (by first | omega | (simp; done))) ?_)
       clear hF; rintro _ w ⟨st724, v725, Lq726, rm727, b728, rfl, hq729, hS1⟩ a hF
       replace hS := hS.callB hS1 rfl; clear hS1
       obtain ⟨Av725, cv725, rfl⟩ := hS.form 0 rfl
       have hq729b := writeF_bd hq729
       refine mvN hF rfl rfl rfl rfl rfl ?_; clear hF; intro a hF
       refine seq_yl hF (wn_none rfl) rfl rfl (yl_extract hF rfl rfl rfl) ?_; clear hF; intro a hF
       refine seq_yl hF (wn_none rfl) rfl rfl (yl_extract hF rfl rfl rfl) ?_; clear hF; intro a hF
       refine seq_wp (wn_none rfl) (wp_store (cs' := #[_, _, _]) hF hS rfl rfl rfl rfl 4 rfl sz43 (by simp [Value.cells, Value.oneCell']) (by simp [Value.cells]) rfl ?_)
       clear hF hS; intro a w hF hS
       refine wpList_nil ?_
       refine then_n ?_
       refine c_seq ?_
       refine c_region ?_
       refine seq_yl hF (wn_none rfl) rfl rfl (yl_loadK (rs := [_, _, _]) (fun _ h => h ▸ hS) hF rfl rfl 4 rfl ag43 sz43 rfl rfl) ?_; clear hF; intro a hF
       refine seq_wp (wn_none rfl) (wp_store (cs' := #[_, _, _]) hF hS rfl rfl rfl rfl 2 rfl sz43 (by simp [Value.cells, Value.oneCell']) (by simp [Value.cells]) rfl ?_)
       clear hF hS; intro a w hF hS
       refine asN hF rfl rfl rfl rfl rfl ?_; clear hF; intro a hF
       refine asN hF rfl rfl rfl rfl rfl ?_; clear hF; intro a hF
       refine wpList_nil ?_
       refine then_n ?_
       refine wp_ret ?_
       refine inb_r ?_
       refine then_r ?_
       refine ret_ctt hF rfl (resC hS rfl 2 rfl ag43 sz43) rfl rfl ?_
       exact ⟨_, rfl, _, _, _, _, _, _, rfl, run_write hfit (by omega) (by omega) hq729, (hS.sub [0] (by decide) (by first | rfl | simp) (by simp))⟩
      ·first | (replace hc723 := of_decide_eq_false hc723) | (replace hc723 := of_decide_eq_true (bnot_f hc723)) | (replace hc723 := bnot_f hc723) | skip
       try (have hc723x := hc723; simp only [okS, okI, okW, okP] at hc723x)
       refine wp_skip ?_
       refine inb_n ?_
       refine then_n ?_
       refine c_seq ?_
       refine c_region ?_
       refine seq_yl hF (wn_none rfl) rfl rfl (yl_loadK (rs := [_, _, _]) (fun _ h => h ▸ hS) hF rfl rfl 3 rfl ag43 sz43 rfl rfl) ?_; clear hF; intro a hF
       refine seq_wp (wn_none rfl) (wp_call (vs := [_]) hF rfl rfl rfl rfl cf43 (flushN_any st _ L (rm) _ (hS.rdRow 0 rfl) (by first | omega | (simp; done)) (by first | omega | (simp; done))) ?_)
       clear hF; rintro _ w ⟨st730, rm731, rfl, hq732, hS1⟩ a hF
       replace hS := hS.callB hS1 rfl; clear hS1
       have hq732b := flushF_bd hq732
       refine seq_wp (wn_none rfl) (wp_store (cs' := #[_, _, _]) hF hS rfl rfl rfl rfl 1 rfl sz43 (by simp [Value.cells, Value.oneCell']) (by simp [Value.cells]) rfl ?_)
       clear hF hS; intro a w hF hS
       refine asN hF rfl rfl rfl rfl rfl ?_; clear hF; intro a hF
       refine asN hF rfl rfl rfl rfl rfl ?_; clear hF; intro a hF
       refine wpList_nil ?_
       refine then_n ?_
       refine wp_ret ?_
       refine ret_ctt hF rfl (resC hS rfl 1 rfl ag43 sz43) rfl rfl ?_
       replace hS := hS.addNil 67 2
       exact ⟨_, rfl, _, _, [], _, _, _, rfl, run_flush hfit (by omega) (by omega) (by omega) hq732, (hS.sub [0] (by decide) (by first | rfl | simp) (by simp))⟩
  ·first | (replace hc713 := of_decide_eq_false hc713) | (replace hc713 := of_decide_eq_true (bnot_f hc713)) | (replace hc713 := bnot_f hc713) | skip
   try (have hc713x := hc713; simp only [okS, okI, okW, okP] at hc713x)
   refine skF hF rfl rfl rfl rfl rfl rfl ?_; clear hF; intro a hF
   refine skF hF rfl rfl rfl rfl rfl rfl ?_; clear hF; intro a hF
   refine skF hF rfl rfl rfl rfl rfl rfl ?_; clear hF; intro a hF
   refine seq_yl hF (wn_none rfl) rfl rfl (pkF hF rfl rfl rfl) ?_; clear hF; intro a hF
   refine asN hF rfl rfl rfl rfl rfl ?_; clear hF; intro a hF
   refine wpList_nil ?_
   refine then_n ?_
   refine c_cond_f hF rfl ?_
   refine c_seq ?_
   refine c_region ?_
   refine mvN hF rfl rfl rfl rfl rfl ?_; clear hF; intro a hF
   refine seq_yl hF (wn_none rfl) rfl rfl (yl_bin hF rfl rfl rfl rfl (fun _ => run_neq)) ?_; clear hF; intro a hF
   refine asN hF rfl rfl rfl rfl rfl ?_; clear hF; intro a hF
   refine wpList_nil ?_
   refine then_n ?_
   refine c_cond hF rfl (fun hc734 => ?_) (fun hc734 => ?_)
   ·first | (replace hc734 := of_decide_eq_true hc734) | (replace hc734 := of_decide_eq_false (bnot_t hc734)) | (replace hc734 := bnot_t hc734) | skip
    try (have hc734x := hc734; simp only [okS, okI, okW, okP] at hc734x)
    refine c_seq ?_
    refine c_region ?_
    refine seq_yl hF (wn_none rfl) rfl rfl (yl_loadK (rs := [_, _, _]) (fun _ h => h ▸ hS) hF rfl rfl 3 rfl ag43 sz43 rfl rfl) ?_; clear hF; intro a hF
    refine mvN hF rfl rfl rfl rfl rfl ?_; clear hF; intro a hF
    refine seq_wp (wn_none rfl) (wp_store (cs' := #[_, _, _]) hF hS rfl rfl rfl rfl 1 rfl sz43 (by simp [Value.cells, Value.oneCell']) (by simp [Value.cells]) rfl ?_)
    clear hF hS; intro a w hF hS
    refine asN hF rfl rfl rfl rfl rfl ?_; clear hF; intro a hF
    refine asN hF rfl rfl rfl rfl rfl ?_; clear hF; intro a hF
    refine wpList_nil ?_
    refine then_n ?_
    refine wp_ret ?_
    refine inb_r ?_
    refine then_r ?_
    refine ret_ctt hF rfl (resC hS rfl 1 rfl ag43 sz43) rfl rfl ?_
    exact ⟨_, rfl, _, _, _, _, _, _, rfl, run_err hfit (by omega) (by omega), (hS.sub [0] (by decide) (by first | rfl | simp) (by simp))⟩
   ·first | (replace hc734 := of_decide_eq_false hc734) | (replace hc734 := of_decide_eq_true (bnot_f hc734)) | (replace hc734 := bnot_f hc734) | skip
    try (have hc734x := hc734; simp only [okS, okI, okW, okP] at hc734x)
    refine c_seq ?_
    refine c_region ?_
    refine seq_yl hF (wn_none rfl) rfl rfl (yl_fieldAddr hF rfl rfl (fun w => by kernel_rfl : ∀ w, (Instr.fieldAt 45 (.pointer (some ⟨g709, 0, none⟩)) 1).run Try.prog w = .ok (.pointer (some ⟨g709, 1, none⟩)) w)) ?_; clear hF; intro a hF
    refine seq_yl hF (wn_none rfl) rfl rfl (yl_load (fun _ h => h ▸ hS) hF rfl rfl 2 rfl ag3 rfl) ?_; clear hF; intro a hF
    refine seq_yl hF (wn_none rfl) rfl rfl (yl_bin hF rfl rfl rfl rfl (fun _ => run_eql)) ?_; clear hF; intro a hF
    refine asN hF rfl rfl rfl rfl rfl ?_; clear hF; intro a hF
    refine wpList_nil ?_
    refine then_n ?_
    refine c_cond hF rfl (fun hc735 => ?_) (fun hc735 => ?_)
    ·first | (replace hc735 := of_decide_eq_true hc735) | (replace hc735 := of_decide_eq_false (bnot_t hc735)) | (replace hc735 := bnot_t hc735) | skip
     try (have hc735x := hc735; simp only [okS, okI, okW, okP] at hc735x)
     refine c_seq ?_
     refine c_region ?_
     refine seq_yl hF (wn_none rfl) rfl rfl (yl_loadK (rs := [_, _, _]) (fun _ h => h ▸ hS) hF rfl rfl 3 rfl ag43 sz43 rfl rfl) ?_; clear hF; intro a hF
     refine seq_yl hF (wn_none rfl) rfl rfl (yl_fieldAddr hF rfl rfl (fun w => by kernel_rfl : ∀ w, (Instr.fieldAt 45 (.pointer (some ⟨g709, 0, none⟩)) 2).run Try.prog w = .ok (.pointer (some ⟨g709, 2, none⟩)) w)) ?_; clear hF; intro a hF
     refine seq_yl hF (wn_none rfl) rfl rfl (yl_load (fun _ h => h ▸ hS) hF rfl rfl 2 rfl ag3 rfl) ?_; clear hF; intro a hF
     refine seq_yl hF (wn_none rfl) rfl rfl (yl_fieldAddr hF rfl rfl (fun w => by kernel_rfl : ∀ w, (Instr.fieldAt 45 (.pointer (some ⟨g709, 0, none⟩)) 3).run Try.prog w = .ok (.pointer (some ⟨g709, 3, none⟩)) w)) ?_; clear hF; intro a hF
     refine seq_yl hF (wn_none rfl) rfl rfl (yl_load (fun _ h => h ▸ hS) hF rfl rfl 2 rfl ag3 rfl) ?_; clear hF; intro a hF
     refine seq_wp (wn_none rfl) (wp_call (vs := [_, _, _]) hF rfl rfl rfl rfl cf41 (read_any st _ L (rm) (s) (c) _ (hS.rdRow 0 rfl) (by first | omega | (simp; done)) (by first | omega | (simp; done))) ?_)
     clear hF; rintro _ w ⟨rfl, hS1⟩ a hF
     replace hS := hS.callB hS1 rfl; clear hS1
     have hz736 := readF_bd st L (rm) (s) (c)
     refine mvN hF rfl rfl rfl rfl rfl ?_; clear hF; intro a hF
     refine seq_yl hF (wn_none rfl) rfl rfl (yl_extract hF rfl rfl rfl) ?_; clear hF; intro a hF
     refine seq_yl hF (wn_none rfl) rfl rfl (yl_extract hF rfl rfl rfl) ?_; clear hF; intro a hF
     refine asN hF rfl rfl rfl rfl rfl ?_; clear hF; intro a hF
     refine asN hF rfl rfl rfl rfl rfl ?_; clear hF; intro a hF
     refine wpList_nil ?_
     refine then_n ?_
     refine c_seq ?_
     refine c_region ?_
     refine seq_yl hF (wn_none rfl) rfl rfl (yl_loadK (rs := [_, _, _]) (fun _ h => h ▸ hS) hF rfl rfl 3 rfl ag43 sz43 rfl rfl) ?_; clear hF; intro a hF
     refine mvN hF rfl rfl rfl rfl rfl ?_; clear hF; intro a hF
     refine seq_wp (wn_none rfl) (wp_store (cs' := #[_, _, _]) hF hS rfl rfl rfl rfl 1 rfl sz43 (by simp [Value.cells, Value.oneCell']) (by simp [Value.cells]) rfl ?_)
     clear hF hS; intro a w hF hS
     refine asN hF rfl rfl rfl rfl rfl ?_; clear hF; intro a hF
     refine asN hF rfl rfl rfl rfl rfl ?_; clear hF; intro a hF
     refine wpList_nil ?_
     refine then_n ?_
     refine wp_ret ?_
     refine inb_r ?_
     refine then_r ?_
     refine ret_ctt hF rfl (resC hS rfl 1 rfl ag43 sz43) rfl rfl ?_
     exact ⟨_, rfl, _, _, _, _, _, _, rfl, run_read hfit (by omega) (by omega), (hS.sub [0] (by decide) (by first | rfl | simp) (by simp))⟩
    ·first | (replace hc735 := of_decide_eq_false hc735) | (replace hc735 := of_decide_eq_true (bnot_f hc735)) | (replace hc735 := bnot_f hc735) | skip
     try (have hc735x := hc735; simp only [okS, okI, okW, okP] at hc735x)
     refine c_seq ?_
     refine c_region ?_
     refine seq_yl hF (wn_none rfl) rfl rfl (yl_fieldAddr hF rfl rfl (fun w => by kernel_rfl : ∀ w, (Instr.fieldAt 45 (.pointer (some ⟨g709, 0, none⟩)) 1).run Try.prog w = .ok (.pointer (some ⟨g709, 1, none⟩)) w)) ?_; clear hF; intro a hF
     refine seq_yl hF (wn_none rfl) rfl rfl (yl_load (fun _ h => h ▸ hS) hF rfl rfl 2 rfl ag3 rfl) ?_; clear hF; intro a hF
     refine seq_yl hF (wn_none rfl) rfl rfl (yl_bin hF rfl rfl rfl rfl (fun _ => run_eql)) ?_; clear hF; intro a hF
     refine asN hF rfl rfl rfl rfl rfl ?_; clear hF; intro a hF
     refine wpList_nil ?_
     refine then_n ?_
     refine c_cond hF rfl (fun hc737 => ?_) (fun hc737 => ?_)
     ·first | (replace hc737 := of_decide_eq_true hc737) | (replace hc737 := of_decide_eq_false (bnot_t hc737)) | (replace hc737 := bnot_t hc737) | skip
      try (have hc737x := hc737; simp only [okS, okI, okW, okP] at hc737x)
      refine c_seq ?_
      refine c_region ?_
      refine seq_yl hF (wn_none rfl) rfl rfl (yl_loadK (rs := [_, _, _]) (fun _ h => h ▸ hS) hF rfl rfl 3 rfl ag43 sz43 rfl rfl) ?_; clear hF; intro a hF
      refine seq_yl hF (wn_none rfl) rfl rfl (yl_fieldAddr hF rfl rfl (fun w => by kernel_rfl : ∀ w, (Instr.fieldAt 45 (.pointer (some ⟨g709, 0, none⟩)) 2).run Try.prog w = .ok (.pointer (some ⟨g709, 2, none⟩)) w)) ?_; clear hF; intro a hF
      refine seq_yl hF (wn_none rfl) rfl rfl (yl_load (fun _ h => h ▸ hS) hF rfl rfl 2 rfl ag3 rfl) ?_; clear hF; intro a hF
      refine seq_yl hF (wn_none rfl) rfl rfl (yl_fieldAddr hF rfl rfl (fun w => by kernel_rfl : ∀ w, (Instr.fieldAt 45 (.pointer (some ⟨g709, 0, none⟩)) 4).run Try.prog w = .ok (.pointer (some ⟨g709, 4, none⟩)) w)) ?_; clear hF; intro a hF
      refine seq_yl hF (wn_none rfl) rfl rfl (yl_load (fun _ h => h ▸ hS) hF rfl rfl 2 rfl ag9 rfl) ?_; clear hF; intro a hF
      refine seq_yl hF (wn_none rfl) rfl rfl (yl_fieldAddr hF rfl rfl (fun w => by kernel_rfl : ∀ w, (Instr.fieldAt 45 (.pointer (some ⟨g709, 0, none⟩)) 5).run Try.prog w = .ok (.pointer (some ⟨g709, 5, none⟩)) w)) ?_; clear hF; intro a hF
      refine seq_yl hF (wn_none rfl) rfl rfl (yl_load (fun _ h => h ▸ hS) hF rfl rfl 2 rfl ag4 rfl) ?_; clear hF; intro a hF
      refine seq_wp (wn_none rfl) (wp_call (vs := [_, _, _, _]) hF rfl rfl rfl rfl cf42 (write_any st _ L (rm) (s) x fua _ (hS.rdRow 0 rfl) (by first | omega | (simp; done)) (by first | omega | (simp; done)) (by first | omega | (simp; done))) ?_)
      clear hF; rintro _ w ⟨st738, v739, Lq740, rm741, b742, rfl, hq743, hS1⟩ a hF
      replace hS := hS.callB hS1 rfl; clear hS1
      obtain ⟨Av739, cv739, rfl⟩ := hS.form 0 rfl
      have hq743b := writeF_bd hq743
      refine mvN hF rfl rfl rfl rfl rfl ?_; clear hF; intro a hF
      refine seq_yl hF (wn_none rfl) rfl rfl (yl_extract hF rfl rfl rfl) ?_; clear hF; intro a hF
      refine seq_yl hF (wn_none rfl) rfl rfl (yl_extract hF rfl rfl rfl) ?_; clear hF; intro a hF
      refine seq_wp (wn_none rfl) (wp_store (cs' := #[_, _, _]) hF hS rfl rfl rfl rfl 4 rfl sz43 (by simp [Value.cells, Value.oneCell']) (by simp [Value.cells]) rfl ?_)
      clear hF hS; intro a w hF hS
      refine wpList_nil ?_
      refine then_n ?_
      refine c_seq ?_
      refine c_region ?_
      refine seq_yl hF (wn_none rfl) rfl rfl (yl_loadK (rs := [_, _, _]) (fun _ h => h ▸ hS) hF rfl rfl 4 rfl ag43 sz43 rfl rfl) ?_; clear hF; intro a hF
      refine seq_wp (wn_none rfl) (wp_store (cs' := #[_, _, _]) hF hS rfl rfl rfl rfl 2 rfl sz43 (by simp [Value.cells, Value.oneCell']) (by simp [Value.cells]) rfl ?_)
      clear hF hS; intro a w hF hS
      refine asN hF rfl rfl rfl rfl rfl ?_; clear hF; intro a hF
      refine asN hF rfl rfl rfl rfl rfl ?_; clear hF; intro a hF
      refine wpList_nil ?_
      refine then_n ?_
      refine wp_ret ?_
      refine inb_r ?_
      refine then_r ?_
      refine ret_ctt hF rfl (resC hS rfl 2 rfl ag43 sz43) rfl rfl ?_
      exact ⟨_, rfl, _, _, _, _, _, _, rfl, run_write hfit (by omega) (by omega) hq743, (hS.sub [0] (by decide) (by first | rfl | simp) (by simp))⟩
     ·first | (replace hc737 := of_decide_eq_false hc737) | (replace hc737 := of_decide_eq_true (bnot_f hc737)) | (replace hc737 := bnot_f hc737) | skip
      try (have hc737x := hc737; simp only [okS, okI, okW, okP] at hc737x)
      refine wp_skip ?_
      refine inb_n ?_
      refine then_n ?_
      refine c_seq ?_
      refine c_region ?_
      refine seq_yl hF (wn_none rfl) rfl rfl (yl_loadK (rs := [_, _, _]) (fun _ h => h ▸ hS) hF rfl rfl 3 rfl ag43 sz43 rfl rfl) ?_; clear hF; intro a hF
      refine seq_wp (wn_none rfl) (wp_call (vs := [_]) hF rfl rfl rfl rfl cf43 (flushN_any st _ L (rm) _ (hS.rdRow 0 rfl) (by first | omega | (simp; done)) (by first | omega | (simp; done))) ?_)
      clear hF; rintro _ w ⟨st744, rm745, rfl, hq746, hS1⟩ a hF
      replace hS := hS.callB hS1 rfl; clear hS1
      have hq746b := flushF_bd hq746
      refine seq_wp (wn_none rfl) (wp_store (cs' := #[_, _, _]) hF hS rfl rfl rfl rfl 1 rfl sz43 (by simp [Value.cells, Value.oneCell']) (by simp [Value.cells]) rfl ?_)
      clear hF hS; intro a w hF hS
      refine asN hF rfl rfl rfl rfl rfl ?_; clear hF; intro a hF
      refine asN hF rfl rfl rfl rfl rfl ?_; clear hF; intro a hF
      refine wpList_nil ?_
      refine then_n ?_
      refine wp_ret ?_
      refine ret_ctt hF rfl (resC hS rfl 1 rfl ag43 sz43) rfl rfl ?_
      replace hS := hS.addNil 67 2
      exact ⟨_, rfl, _, _, [], _, _, _, rfl, run_flush hfit (by omega) (by omega) (by omega) hq746, (hS.sub [0] (by decide) (by first | rfl | simp) (by simp))⟩

end Go.Proofs.Ytkejcnhfbfgphaa

/- walks, printed by wip/gen -/
import Derived.Test.YtkejcnhfbfgphaaX0
namespace Go.Proofs.Ytkejcnhfbfgphaa
open Go.RowKit
set_option linter.unusedVariables false
set_option linter.unusedSimpArgs false

set_option maxRecDepth 100000 in
theorem indexP_any {k : FuncId} {caps : List Value} {p : E67 → Bool} {H : List Chunk} (w0 w : World) (v : Value) (L : List E67) (hcf : ∀ (args : Array Value) (w : World), (callFunc k args).run Try.prog w = .ok (.enter k args) w) (hp : PredOn Try.prog w0 H k caps (fun x : E67 => .agg #[.int .i64 x.f0, .string x.f1]) p) (hr : ∀ w, Sat w0 w H → Rd w 2 v (L).length (cells enc67 (L))) (hS : Sat w0 w H) (hL : L.length ≤ 1000000) :
  Fn Try.prog 82 #[v, .func (.func k) #[] caps.toArray] w (fun v w' => v = .int .i64 (idxF p L) ∧ Sat w0 w' H) := by
 obtain ⟨Av, cv, rfl⟩ := (hr _ hS).form
 refine c_enterS (N := 19) (l := [_, _]) Try.func82 rfl rfl (fun a hF => ?_)
 refine c_seq ?_
 refine c_region ?_
 refine asN hF rfl rfl rfl rfl rfl ?_; clear hF; intro a hF
 refine wpList_nil ?_
 refine then_n ?_
 refine c_seq ?_
 refine c_seq ?_
 refine c_region ?_
 refine mvN hF rfl rfl rfl rfl rfl ?_; clear hF; intro a hF
 refine seq_yl hF (wn_none rfl) rfl rfl (yl_len hF rfl rfl (fun _ => run_lenRd sl41 (hr _ hS))) ?_; clear hF; intro a hF
 refine mvN hF rfl rfl rfl rfl rfl ?_; clear hF; intro a hF
 refine wpList_nil ?_
 refine then_n ?_
 refine wp_block ?_
 refine c_loop (fun m a w => ∃ (k0 : Nat), m = L.length - k0 ∧ (k0 ≤ L.length ∧ ∀ x ∈ L.take k0, p x = false) ∧ Fr 19 a [(0, .slice Av L.length cv), (1, .func (.func k) #[] caps.toArray), (7, .int .i64 (((L).length : Nat) : Int)), (8, .int .i64 ((k0 : Nat) : Int))] ∧ Sat w0 w (H)) (L.length - 0) ?_ ?_
 ·exact ⟨0, rfl, ⟨Nat.zero_le _, by simp⟩, hF.to [0, 1, 7, 8] rfl, (hS.subT 0 [] (by decide) (by first | rfl | simp) (by simp) (by simp))⟩
 ·clear hF hS; try clear hSS
  clear a w; rintro m a w ⟨k0, rfl, hinv, hF, hS⟩
  have hk := hinv.1
  refine c_seq ?_
  refine c_region ?_
  refine seq_yl hF (wn_none rfl) rfl rfl (yl_bin hF rfl rfl rfl rfl (fun _ => run_lss)) ?_; clear hF; intro a hF
  refine wpList_nil ?_
  refine then_n ?_
  refine c_seq ?_
  refine c_cond hF rfl (fun hc385 => ?_) (fun hc385 => ?_)
  ·first | (replace hc385 := of_decide_eq_true hc385) | (replace hc385 := of_decide_eq_false (bnot_t hc385)) | (subst hc385) | (replace hc385 := bnot_t hc385; subst hc385) | (replace hc385 := bnot_t hc385) | skip
   try (have hc385x := hc385; simp only [okS, okI, okW, okP] at hc385x)
   refine wp_skip ?_
   refine then_n ?_
   refine c_seq ?_
   refine wp_block ?_
   refine c_seq ?_
   refine c_region ?_
   refine mvN hF rfl rfl rfl rfl rfl ?_; clear hF; intro a hF
   refine asN hF rfl rfl rfl rfl rfl ?_; clear hF; intro a hF
   refine wpList_nil ?_
   refine then_n ?_
   refine c_seq ?_
   refine c_region ?_
   refine mvN hF rfl rfl rfl rfl rfl ?_; clear hF; intro a hF
   refine mvN hF rfl rfl rfl rfl rfl ?_; clear hF; intro a hF
   refine mvN hF rfl rfl rfl rfl rfl ?_; clear hF; intro a hF
   have hlt_hx386 : k0 < (L).length := by first | omega | (simp; done) | (simp; omega)
   obtain ⟨ad387, rfl⟩ := rd_some (hr _ hS) hlt_hx386
   obtain ⟨x386, hx386⟩ := get_some hlt_hx386
   refine seq_yl hF (wn_none rfl) rfl rfl (yl_indexAddr hF rfl rfl rfl (fun _ => run_idx' sl41 sz67 (hr _ hS) hlt_hx386)) ?_; clear hF; intro a hF
   refine seq_yl hF (wn_none rfl) rfl rfl (yl_loadEl (rs := [.int .i64 (x386.f0), .string x386.f1]) hF rfl rfl ag67 sz67 rfl (fun _ h => rd_cells (enc := enc67) (by subst h; exact hr _ hS) enc67_len hx386)) ?_; clear hF; intro a hF
   refine seq_wp (wn_none rfl) (wp_callC (f := k) (vs := [_]) (caps := caps) hF rfl rfl rfl rfl rfl hcf (hp x386 _ hS) ?_)
   clear hF hS; rintro _ w ⟨rfl, hS⟩ a hF
   refine wpList_nil ?_
   refine then_n ?_
   refine c_cond hF rfl (fun hc388 => ?_) (fun hc388 => ?_)
   ·first | (replace hc388 := of_decide_eq_true hc388) | (replace hc388 := of_decide_eq_false (bnot_t hc388)) | (subst hc388) | (replace hc388 := bnot_t hc388; subst hc388) | (replace hc388 := bnot_t hc388) | skip
    try (have hc388x := hc388; simp only [okS, okI, okW, okP] at hc388x)
    refine c_seq ?_
    refine c_region ?_
    refine mvN hF rfl rfl rfl rfl rfl ?_; clear hF; intro a hF
    refine asN hF rfl rfl rfl rfl rfl ?_; clear hF; intro a hF
    refine wpList_nil ?_
    refine then_n ?_
    refine wp_ret ?_
    refine inb_r ?_
    refine then_r ?_
    refine then_r ?_
    refine inb_r ?_
    refine then_r ?_
    refine ret_t hF rfl rfl ?_
    exact ⟨_, rfl, congrArg (Value.int .i64) (idx_hit hx386 (by assumption) hinv.2), hS⟩
   ·first | (replace hc388 := of_decide_eq_false hc388) | (replace hc388 := of_decide_eq_true (bnot_f hc388)) | (subst hc388) | (replace hc388 := bnot_f hc388; subst hc388) | (replace hc388 := bnot_f hc388) | skip
    try (have hc388x := hc388; simp only [okS, okI, okW, okP] at hc388x)
    refine wp_skip ?_
    refine inb_n ?_
    refine then_n ?_
    refine c_region ?_
    refine seq_yl hF (wn_none rfl) rfl rfl (yl_bin hF rfl rfl rfl rfl (fun _ => run_inc (by omega))) ?_; clear hF; intro a hF
    refine mvN hF rfl rfl rfl rfl rfl ?_; clear hF; intro a hF
    refine wpList_nil ?_
    refine then_n ?_
    exact ⟨_, (by omega), k0 + 1, rfl, ⟨by omega, all_not_step hx386 (by assumption) hinv.2⟩, hF.to [0, 1, 7, 8] rfl, (hS.subT 0 [] (by decide) (by first | rfl | simp) (by simp) (by simp))⟩
  ·first | (replace hc385 := of_decide_eq_false hc385) | (replace hc385 := of_decide_eq_true (bnot_f hc385)) | (subst hc385) | (replace hc385 := bnot_f hc385; subst hc385) | (replace hc385 := bnot_f hc385) | skip
   try (have hc385x := hc385; simp only [okS, okI, okW, okP] at hc385x)
   refine wp_exit ?_
   refine then_x ?_
   refine then_x ?_
   refine inb_x ?_
   refine then_n ?_
   refine c_seq ?_
   refine c_region ?_
   refine asN hF rfl rfl rfl rfl rfl ?_; clear hF; intro a hF
   refine wpList_nil ?_
   refine then_n ?_
   refine wp_ret ?_
   refine ret_t hF rfl rfl ?_
   exact ⟨_, rfl, congrArg (Value.int .i64) (idx_none hinv.2 (by omega)), hS⟩

set_option maxRecDepth 100000 in
theorem containsP_any {k : FuncId} {caps : List Value} {p : E67 → Bool} {H : List Chunk} (w0 w : World) (v : Value) (L : List E67) (hcf : ∀ (args : Array Value) (w : World), (callFunc k args).run Try.prog w = .ok (.enter k args) w) (hp : PredOn Try.prog w0 H k caps (fun x : E67 => .agg #[.int .i64 x.f0, .string x.f1]) p) (hr : ∀ w, Sat w0 w H → Rd w 2 v (L).length (cells enc67 (L))) (hS : Sat w0 w H) (hL : L.length ≤ 1000000) :
  Fn Try.prog 75 #[v, .func (.func k) #[] caps.toArray] w (fun v w' => v = .bool (L.any p) ∧ Sat w0 w' H) := by
 obtain ⟨Av, cv, rfl⟩ := (hr _ hS).form
 refine c_enterS (N := 9) (l := [_, _]) Try.func75 rfl rfl (fun a hF => ?_)
 refine c_seq ?_
 refine c_region ?_
 refine asN hF rfl rfl rfl rfl rfl ?_; clear hF; intro a hF
 refine wpList_nil ?_
 refine then_n ?_
 refine c_seq ?_
 refine c_region ?_
 refine mvN hF rfl rfl rfl rfl rfl ?_; clear hF; intro a hF
 refine mvN hF rfl rfl rfl rfl rfl ?_; clear hF; intro a hF
 refine seq_wp (wn_none rfl) (wp_call (vs := [_, _]) hF rfl rfl rfl rfl cf82 (indexP_any (k := k) (caps := caps) (p := p) _ _ _ L hcf hp hr hS hL) ?_)
 clear hF hS; rintro _ w ⟨rfl, hS⟩ a hF
 refine seq_yl hF (wn_none rfl) rfl rfl (yl_bin hF rfl rfl rfl rfl (fun _ => run_geq)) ?_; clear hF; intro a hF
 refine asN hF rfl rfl rfl rfl rfl ?_; clear hF; intro a hF
 refine wpList_nil ?_
 refine then_n ?_
 refine wp_ret ?_
 refine ret_t hF rfl rfl ?_
 exact ⟨_, rfl, congrArg Value.bool (cont_idx p L), hS⟩

set_option maxRecDepth 100000 in
theorem clValid (w0 w : World) (H : List Chunk) (j gd : Nat) (st : ByteArray) (lv : Value) (rm : Int) (x : E67) (hj : H[j]? = some (.box gd 43 #[.string st, lv, .int .i64 rm])) (hz : (st.size : Int) ≤ 9223372036854775807) (hS : Sat w0 w H) :
  Fn Try.prog 76 #[.agg #[.int .i64 x.f0, .string x.f1], .pointer (some ⟨gd, 0, none⟩)] w (fun v w' => v = .bool (!(decide (okP (st.size : Int) x))) ∧ Sat w0 w' H) := by
 refine c_enterS (N := 15) (l := [_, _]) Try.func76 rfl rfl (fun a hF => ?_)
 refine c_seq ?_
 refine c_region ?_
 refine seq_wp (wn_none rfl) (wp_box (cs := #[_, _]) hF hS rfl rfl rfl rfl rfl ?_)
 clear hF hS; intro a w g389 hF hS
 refine asN hF rfl rfl rfl rfl rfl ?_; clear hF; intro a hF
 refine wpList_nil ?_
 refine then_n ?_
 refine c_seq ?_
 refine c_region ?_
 refine seq_yl hF (wn_none rfl) rfl rfl (yl_loadK (rs := [_, _, _]) (fun _ h => h ▸ hS) hF rfl rfl (j + 1) hj ag43 sz43 rfl rfl) ?_; clear hF; intro a hF
 refine seq_yl hF (wn_none rfl) rfl rfl (yl_fieldAddr hF rfl rfl (fun w => by kernel_rfl : ∀ w, (Instr.fieldAt 67 (.pointer (some ⟨g389, 0, none⟩)) 0).run Try.prog w = .ok (.pointer (some ⟨g389, 0, none⟩)) w)) ?_; clear hF; intro a hF
 refine seq_yl hF (wn_none rfl) rfl rfl (yl_load (fun _ h => h ▸ hS) hF rfl rfl 0 rfl ag3 rfl) ?_; clear hF; intro a hF
 refine seq_wp (wn_none rfl) (wp_call (vs := [_, _, _]) hF rfl rfl rfl rfl cf61 (has_any st _ _ (x.f0) (1 : Int) _ (by omega)) ?_)
 clear hF; rintro _ w ⟨rfl, hS1⟩ a hF
 replace hS := hS.callB hS1 rfl; clear hS1
 refine seq_yl hF (wn_none rfl) rfl rfl (yl_un hF rfl rfl (fun _ => run_not)) ?_; clear hF; intro a hF
 refine mvN hF rfl rfl rfl rfl rfl ?_; clear hF; intro a hF
 refine fr_split hF (fun hc390 hF => ?_) (fun hc390 hF => ?_)
 ·first | (replace hc390 := of_decide_eq_true hc390) | (replace hc390 := of_decide_eq_false (bnot_t hc390)) | (subst hc390) | (replace hc390 := bnot_t hc390; subst hc390) | (replace hc390 := bnot_t hc390) | skip
  try (have hc390x := hc390; simp only [okS, okI, okW, okP] at hc390x)
  refine skF hF rfl rfl rfl rfl rfl rfl ?_; clear hF; intro a hF
  refine skF hF rfl rfl rfl rfl rfl rfl ?_; clear hF; intro a hF
  refine skF hF rfl rfl rfl rfl rfl rfl ?_; clear hF; intro a hF
  refine skF hF rfl rfl rfl rfl rfl rfl ?_; clear hF; intro a hF
  refine seq_yl hF (wn_none rfl) rfl rfl (pkT hF rfl rfl rfl) ?_; clear hF; intro a hF
  refine asN hF rfl rfl rfl rfl rfl ?_; clear hF; intro a hF
  refine wpList_nil ?_
  refine then_n ?_
  refine wp_ret ?_
  refine ret_t hF rfl rfl ?_
  exact ⟨_, rfl, congrArg Value.bool (ndec_t (by (simp only [okP, okS, okI] at *; omega))), (hS.subT 1 [] (by decide) (by first | rfl | simp) (by simp) (by simp))⟩
 ·first | (replace hc390 := of_decide_eq_false hc390) | (replace hc390 := of_decide_eq_true (bnot_f hc390)) | (subst hc390) | (replace hc390 := bnot_f hc390; subst hc390) | (replace hc390 := bnot_f hc390) | skip
  try (have hc390x := hc390; simp only [okS, okI, okW, okP] at hc390x)
  refine seq_yl hF (wn_t hF rfl rfl rfl rfl) rfl rfl (yl_fieldAddr hF rfl rfl (fun w => by kernel_rfl : ∀ w, (Instr.fieldAt 67 (.pointer (some ⟨g389, 0, none⟩)) 1).run Try.prog w = .ok (.pointer (some ⟨g389, 1, none⟩)) w)) ?_; clear hF; intro a hF
  refine seq_yl hF (wn_t hF rfl rfl rfl rfl) rfl rfl (yl_load (fun _ h => h ▸ hS) hF rfl rfl 0 rfl ag9 rfl) ?_; clear hF; intro a hF
  refine seq_yl hF (wn_t hF rfl rfl rfl rfl) rfl rfl (yl_len hF rfl rfl (fun _ => run_lenStr Try.underlying9)) ?_; clear hF; intro a hF
  refine seq_yl hF (wn_t hF rfl rfl rfl rfl) rfl rfl (yl_bin hF rfl rfl rfl rfl (fun _ => run_neq)) ?_; clear hF; intro a hF
  refine seq_yl hF (wn_none rfl) rfl rfl (pkF hF rfl rfl rfl) ?_; clear hF; intro a hF
  refine asN hF rfl rfl rfl rfl rfl ?_; clear hF; intro a hF
  refine wpList_nil ?_
  refine then_n ?_
  refine wp_ret ?_
  refine ret_t hF rfl rfl ?_
  exact ⟨_, rfl, congrArg Value.bool ((dec_d (q := ¬ (okP (st.size : Int) x)) (by constructor <;> intro _ <;> (simp only [okP, okS, okI] at *; omega))).trans decide_not), (hS.subT 1 [] (by decide) (by first | rfl | simp) (by simp) (by simp))⟩

set_option maxRecDepth 100000 in
theorem dValid_any (st : ByteArray) (lv : Value) (L : List E67) (rm : Int) (w0 : World) (hv : Rd w0 2 lv (L).length (cells enc67 (L))) (hz : (st.size : Int) ≤ 9223372036854775807) (hL : L.length ≤ 1000000) :
  Fn Try.prog 60 #[.agg #[.string st, lv, .int .i64 rm]] w0 (fun v w' => v = .bool (decide (okD st L rm)) ∧ Sat w0 w' []) := by
 obtain ⟨Alv, clv, rfl⟩ := Rd.form hv
 refine c_enter (N := 31) (l := [_]) Try.func60 rfl rfl (fun a w hF hS => ?_)
 replace hS := hS.addRo hv
 refine c_seq ?_
 refine c_region ?_
 refine seq_wp (wn_none rfl) (wp_box (cs := #[_, _, _]) hF hS rfl rfl rfl rfl rfl ?_)
 clear hF hS; intro a w g391 hF hS
 refine asN hF rfl rfl rfl rfl rfl ?_; clear hF; intro a hF
 refine wpList_nil ?_
 refine then_n ?_
 refine c_seq ?_
 refine c_region ?_
 refine seq_yl hF (wn_none rfl) rfl rfl (yl_fieldAddr hF rfl rfl (fun w => by kernel_rfl : ∀ w, (Instr.fieldAt 43 (.pointer (some ⟨g391, 0, none⟩)) 0).run Try.prog w = .ok (.pointer (some ⟨g391, 0, none⟩)) w)) ?_; clear hF; intro a hF
 refine seq_yl hF (wn_none rfl) rfl rfl (yl_load (fun _ h => h ▸ hS) hF rfl rfl 0 rfl ag9 rfl) ?_; clear hF; intro a hF
 refine seq_wp (wn_none rfl) (wp_call (vs := [_]) hF rfl rfl rfl rfl cf74 (imValid_any st _) ?_)
 clear hF; rintro _ w ⟨rfl, hS1⟩ a hF
 replace hS := hS.callB hS1 rfl; clear hS1
 refine mvN hF rfl rfl rfl rfl rfl ?_; clear hF; intro a hF
 refine fr_split hF (fun hc392 hF => ?_) (fun hc392 hF => ?_)
 ·first | (replace hc392 := of_decide_eq_true hc392) | (replace hc392 := of_decide_eq_false (bnot_t hc392)) | (subst hc392) | (replace hc392 := bnot_t hc392; subst hc392) | (replace hc392 := bnot_t hc392) | skip
  try (have hc392x := hc392; simp only [okS, okI, okW, okP] at hc392x)
  refine seq_yl hF (wn_t hF rfl rfl rfl rfl) rfl rfl (yl_fieldAddr hF rfl rfl (fun w => by kernel_rfl : ∀ w, (Instr.fieldAt 43 (.pointer (some ⟨g391, 0, none⟩)) 2).run Try.prog w = .ok (.pointer (some ⟨g391, 2, none⟩)) w)) ?_; clear hF; intro a hF
  refine seq_yl hF (wn_t hF rfl rfl rfl rfl) rfl rfl (yl_load (fun _ h => h ▸ hS) hF rfl rfl 0 rfl ag3 rfl) ?_; clear hF; intro a hF
  refine seq_yl hF (wn_t hF rfl rfl rfl rfl) rfl rfl (yl_bin hF rfl rfl rfl rfl (fun _ => run_geq)) ?_; clear hF; intro a hF
  refine seq_yl hF (wn_none rfl) rfl rfl (pkT hF rfl rfl rfl) ?_; clear hF; intro a hF
  refine mvN hF rfl rfl rfl rfl rfl ?_; clear hF; intro a hF
  refine fr_split hF (fun hc393 hF => ?_) (fun hc393 hF => ?_)
  ·first | (replace hc393 := of_decide_eq_true hc393) | (replace hc393 := of_decide_eq_false (bnot_t hc393)) | (subst hc393) | (replace hc393 := bnot_t hc393; subst hc393) | (replace hc393 := bnot_t hc393) | skip
   try (have hc393x := hc393; simp only [okS, okI, okW, okP] at hc393x)
   refine seq_yl hF (wn_t hF rfl rfl rfl rfl) rfl rfl (yl_fieldAddr hF rfl rfl (fun w => by kernel_rfl : ∀ w, (Instr.fieldAt 43 (.pointer (some ⟨g391, 0, none⟩)) 2).run Try.prog w = .ok (.pointer (some ⟨g391, 2, none⟩)) w)) ?_; clear hF; intro a hF
   refine seq_yl hF (wn_t hF rfl rfl rfl rfl) rfl rfl (yl_load (fun _ h => h ▸ hS) hF rfl rfl 0 rfl ag3 rfl) ?_; clear hF; intro a hF
   refine seq_yl hF (wn_t hF rfl rfl rfl rfl) rfl rfl (yl_bin hF rfl rfl rfl rfl (fun _ => run_leq)) ?_; clear hF; intro a hF
   refine seq_yl hF (wn_none rfl) rfl rfl (pkT hF rfl rfl rfl) ?_; clear hF; intro a hF
   refine mvN hF rfl rfl rfl rfl rfl ?_; clear hF; intro a hF
   refine fr_split hF (fun hc394 hF => ?_) (fun hc394 hF => ?_)
   ·first | (replace hc394 := of_decide_eq_true hc394) | (replace hc394 := of_decide_eq_false (bnot_t hc394)) | (subst hc394) | (replace hc394 := bnot_t hc394; subst hc394) | (replace hc394 := bnot_t hc394) | skip
    try (have hc394x := hc394; simp only [okS, okI, okW, okP] at hc394x)
    refine seq_yl hF (wn_t hF rfl rfl rfl rfl) rfl rfl (yl_fieldAddr hF rfl rfl (fun w => by kernel_rfl : ∀ w, (Instr.fieldAt 43 (.pointer (some ⟨g391, 0, none⟩)) 1).run Try.prog w = .ok (.pointer (some ⟨g391, 1, none⟩)) w)) ?_; clear hF; intro a hF
    refine seq_yl hF (wn_t hF rfl rfl rfl rfl) rfl rfl (yl_load (fun _ h => h ▸ hS) hF rfl rfl 0 rfl ag41 rfl) ?_; clear hF; intro a hF
    refine seq_yl hF (wn_t hF rfl rfl rfl rfl) rfl rfl (yl_len hF rfl rfl (fun _ => run_lenRd sl41 (hS.rdRo 1 rfl))) ?_; clear hF; intro a hF
    refine seq_yl hF (wn_t hF rfl rfl rfl rfl) rfl rfl (yl_fieldAddr hF rfl rfl (fun w => by kernel_rfl : ∀ w, (Instr.fieldAt 43 (.pointer (some ⟨g391, 0, none⟩)) 2).run Try.prog w = .ok (.pointer (some ⟨g391, 2, none⟩)) w)) ?_; clear hF; intro a hF
    refine seq_yl hF (wn_t hF rfl rfl rfl rfl) rfl rfl (yl_load (fun _ h => h ▸ hS) hF rfl rfl 0 rfl ag3 rfl) ?_; clear hF; intro a hF
    refine seq_yl hF (wn_t hF rfl rfl rfl rfl) rfl rfl (yl_bin hF rfl rfl rfl rfl (fun _ => run_leq)) ?_; clear hF; intro a hF
    refine seq_yl hF (wn_none rfl) rfl rfl (pkT hF rfl rfl rfl) ?_; clear hF; intro a hF
    refine mvN hF rfl rfl rfl rfl rfl ?_; clear hF; intro a hF
    refine fr_split hF (fun hc395 hF => ?_) (fun hc395 hF => ?_)
    ·first | (replace hc395 := of_decide_eq_true hc395) | (replace hc395 := of_decide_eq_false (bnot_t hc395)) | (subst hc395) | (replace hc395 := bnot_t hc395; subst hc395) | (replace hc395 := bnot_t hc395) | skip
     try (have hc395x := hc395; simp only [okS, okI, okW, okP] at hc395x)
     refine seq_yl hF (wn_t hF rfl rfl rfl rfl) rfl rfl (yl_fieldAddr hF rfl rfl (fun w => by kernel_rfl : ∀ w, (Instr.fieldAt 43 (.pointer (some ⟨g391, 0, none⟩)) 1).run Try.prog w = .ok (.pointer (some ⟨g391, 1, none⟩)) w)) ?_; clear hF; intro a hF
     refine seq_yl hF (wn_t hF rfl rfl rfl rfl) rfl rfl (yl_load (fun _ h => h ▸ hS) hF rfl rfl 0 rfl ag41 rfl) ?_; clear hF; intro a hF
     refine seq_yl hF (wn_t hF rfl rfl rfl rfl) rfl rfl (yl_makeFunc (vs := [_]) hF rfl rfl) ?_; clear hF; intro a hF
     refine seq_wp (wn_t hF rfl rfl rfl rfl) (wp_call (vs := [_, _]) hF rfl rfl rfl rfl cf75 (containsP_any (k := 76) (caps := [.pointer (some ⟨g391, 0, none⟩)]) (p := (fun p : E67 => !(decide (okP ((st).size : Int) p)))) _ _ _ L cf76 (fun x w h => clValid _ _ _ 0 _ _ _ _ x rfl (by omega) h) (fun w h => Sat.rdRo h 1 rfl) hS (by first | omega | (simp; done) | (simp; omega))) ?_)
     clear hF hS; rintro _ w ⟨rfl, hS⟩ a hF
     refine seq_yl hF (wn_t hF rfl rfl rfl rfl) rfl rfl (yl_un hF rfl rfl (fun _ => run_not)) ?_; clear hF; intro a hF
     refine seq_yl hF (wn_none rfl) rfl rfl (pkT hF rfl rfl rfl) ?_; clear hF; intro a hF
     refine asN hF rfl rfl rfl rfl rfl ?_; clear hF; intro a hF
     refine wpList_nil ?_
     refine then_n ?_
     refine wp_ret ?_
     refine ret_t hF rfl rfl ?_
     exact ⟨_, rfl, congrArg Value.bool (valid_end (by assumption) (by omega) (by omega) (by omega)), (hS.sub [] (by decide) (by first | rfl | simp) (by simp))⟩
    ·first | (replace hc395 := of_decide_eq_false hc395) | (replace hc395 := of_decide_eq_true (bnot_f hc395)) | (subst hc395) | (replace hc395 := bnot_f hc395; subst hc395) | (replace hc395 := bnot_f hc395) | skip
     try (have hc395x := hc395; simp only [okS, okI, okW, okP] at hc395x)
     refine skF hF rfl rfl rfl rfl rfl rfl ?_; clear hF; intro a hF
     refine skF hF rfl rfl rfl rfl rfl rfl ?_; clear hF; intro a hF
     refine skF hF rfl rfl rfl rfl rfl rfl ?_; clear hF; intro a hF
     refine skF hF rfl rfl rfl rfl rfl rfl ?_; clear hF; intro a hF
     refine skF hF rfl rfl rfl rfl rfl rfl ?_; clear hF; intro a hF
     refine seq_yl hF (wn_none rfl) rfl rfl (pkF hF rfl rfl rfl) ?_; clear hF; intro a hF
     refine asN hF rfl rfl rfl rfl rfl ?_; clear hF; intro a hF
     refine wpList_nil ?_
     refine then_n ?_
     refine wp_ret ?_
     refine ret_t hF rfl rfl ?_
     exact ⟨_, rfl, congrArg Value.bool (dec_f (fun h9 => by have h8 := okD_I h9; omega)), (hS.sub [] (by decide) (by first | rfl | simp) (by simp))⟩
   ·first | (replace hc394 := of_decide_eq_false hc394) | (replace hc394 := of_decide_eq_true (bnot_f hc394)) | (subst hc394) | (replace hc394 := bnot_f hc394; subst hc394) | (replace hc394 := bnot_f hc394) | skip
    try (have hc394x := hc394; simp only [okS, okI, okW, okP] at hc394x)
    refine skF hF rfl rfl rfl rfl rfl rfl ?_; clear hF; intro a hF
    refine skF hF rfl rfl rfl rfl rfl rfl ?_; clear hF; intro a hF
    refine skF hF rfl rfl rfl rfl rfl rfl ?_; clear hF; intro a hF
    refine skF hF rfl rfl rfl rfl rfl rfl ?_; clear hF; intro a hF
    refine skF hF rfl rfl rfl rfl rfl rfl ?_; clear hF; intro a hF
    refine skF hF rfl rfl rfl rfl rfl rfl ?_; clear hF; intro a hF
    refine seq_yl hF (wn_none rfl) rfl rfl (pkF hF rfl rfl rfl) ?_; clear hF; intro a hF
    refine mvN hF rfl rfl rfl rfl rfl ?_; clear hF; intro a hF
    refine skF hF rfl rfl rfl rfl rfl rfl ?_; clear hF; intro a hF
    refine skF hF rfl rfl rfl rfl rfl rfl ?_; clear hF; intro a hF
    refine skF hF rfl rfl rfl rfl rfl rfl ?_; clear hF; intro a hF
    refine skF hF rfl rfl rfl rfl rfl rfl ?_; clear hF; intro a hF
    refine skF hF rfl rfl rfl rfl rfl rfl ?_; clear hF; intro a hF
    refine seq_yl hF (wn_none rfl) rfl rfl (pkF hF rfl rfl rfl) ?_; clear hF; intro a hF
    refine asN hF rfl rfl rfl rfl rfl ?_; clear hF; intro a hF
    refine wpList_nil ?_
    refine then_n ?_
    refine wp_ret ?_
    refine ret_t hF rfl rfl ?_
    exact ⟨_, rfl, congrArg Value.bool (dec_f (fun h9 => by have h8 := okD_I h9; omega)), (hS.sub [] (by decide) (by first | rfl | simp) (by simp))⟩
  ·first | (replace hc393 := of_decide_eq_false hc393) | (replace hc393 := of_decide_eq_true (bnot_f hc393)) | (subst hc393) | (replace hc393 := bnot_f hc393; subst hc393) | (replace hc393 := bnot_f hc393) | skip
   try (have hc393x := hc393; simp only [okS, okI, okW, okP] at hc393x)
   refine skF hF rfl rfl rfl rfl rfl rfl ?_; clear hF; intro a hF
   refine skF hF rfl rfl rfl rfl rfl rfl ?_; clear hF; intro a hF
   refine skF hF rfl rfl rfl rfl rfl rfl ?_; clear hF; intro a hF
   refine seq_yl hF (wn_none rfl) rfl rfl (pkF hF rfl rfl rfl) ?_; clear hF; intro a hF
   refine mvN hF rfl rfl rfl rfl rfl ?_; clear hF; intro a hF
   refine skF hF rfl rfl rfl rfl rfl rfl ?_; clear hF; intro a hF
   refine skF hF rfl rfl rfl rfl rfl rfl ?_; clear hF; intro a hF
   refine skF hF rfl rfl rfl rfl rfl rfl ?_; clear hF; intro a hF
   refine skF hF rfl rfl rfl rfl rfl rfl ?_; clear hF; intro a hF
   refine skF hF rfl rfl rfl rfl rfl rfl ?_; clear hF; intro a hF
   refine skF hF rfl rfl rfl rfl rfl rfl ?_; clear hF; intro a hF
   refine seq_yl hF (wn_none rfl) rfl rfl (pkF hF rfl rfl rfl) ?_; clear hF; intro a hF
   refine mvN hF rfl rfl rfl rfl rfl ?_; clear hF; intro a hF
   refine skF hF rfl rfl rfl rfl rfl rfl ?_; clear hF; intro a hF
   refine skF hF rfl rfl rfl rfl rfl rfl ?_; clear hF; intro a hF
   refine skF hF rfl rfl rfl rfl rfl rfl ?_; clear hF; intro a hF
   refine skF hF rfl rfl rfl rfl rfl rfl ?_; clear hF; intro a hF
   refine skF hF rfl rfl rfl rfl rfl rfl ?_; clear hF; intro a hF
   refine seq_yl hF (wn_none rfl) rfl rfl (pkF hF rfl rfl rfl) ?_; clear hF; intro a hF
   refine asN hF rfl rfl rfl rfl rfl ?_; clear hF; intro a hF
   refine wpList_nil ?_
   refine then_n ?_
   refine wp_ret ?_
   refine ret_t hF rfl rfl ?_
   exact ⟨_, rfl, congrArg Value.bool (dec_f (fun h9 => by have h8 := okD_I h9; omega)), (hS.sub [] (by decide) (by first | rfl | simp) (by simp))⟩
 ·first | (replace hc392 := of_decide_eq_false hc392) | (replace hc392 := of_decide_eq_true (bnot_f hc392)) | (subst hc392) | (replace hc392 := bnot_f hc392; subst hc392) | (replace hc392 := bnot_f hc392) | skip
  try (have hc392x := hc392; simp only [okS, okI, okW, okP] at hc392x)
  refine skF hF rfl rfl rfl rfl rfl rfl ?_; clear hF; intro a hF
  refine skF hF rfl rfl rfl rfl rfl rfl ?_; clear hF; intro a hF
  refine skF hF rfl rfl rfl rfl rfl rfl ?_; clear hF; intro a hF
  refine seq_yl hF (wn_none rfl) rfl rfl (pkF hF rfl rfl rfl) ?_; clear hF; intro a hF
  refine mvN hF rfl rfl rfl rfl rfl ?_; clear hF; intro a hF
  refine skF hF rfl rfl rfl rfl rfl rfl ?_; clear hF; intro a hF
  refine skF hF rfl rfl rfl rfl rfl rfl ?_; clear hF; intro a hF
  refine skF hF rfl rfl rfl rfl rfl rfl ?_; clear hF; intro a hF
  refine seq_yl hF (wn_none rfl) rfl rfl (pkF hF rfl rfl rfl) ?_; clear hF; intro a hF
  refine mvN hF rfl rfl rfl rfl rfl ?_; clear hF; intro a hF
  refine skF hF rfl rfl rfl rfl rfl rfl ?_; clear hF; intro a hF
  refine skF hF rfl rfl rfl rfl rfl rfl ?_; clear hF; intro a hF
  refine skF hF rfl rfl rfl rfl rfl rfl ?_; clear hF; intro a hF
  refine skF hF rfl rfl rfl rfl rfl rfl ?_; clear hF; intro a hF
  refine skF hF rfl rfl rfl rfl rfl rfl ?_; clear hF; intro a hF
  refine skF hF rfl rfl rfl rfl rfl rfl ?_; clear hF; intro a hF
  refine seq_yl hF (wn_none rfl) rfl rfl (pkF hF rfl rfl rfl) ?_; clear hF; intro a hF
  refine mvN hF rfl rfl rfl rfl rfl ?_; clear hF; intro a hF
  refine skF hF rfl rfl rfl rfl rfl rfl ?_; clear hF; intro a hF
  refine skF hF rfl rfl rfl rfl rfl rfl ?_; clear hF; intro a hF
  refine skF hF rfl rfl rfl rfl rfl rfl ?_; clear hF; intro a hF
  refine skF hF rfl rfl rfl rfl rfl rfl ?_; clear hF; intro a hF
  refine skF hF rfl rfl rfl rfl rfl rfl ?_; clear hF; intro a hF
  refine seq_yl hF (wn_none rfl) rfl rfl (pkF hF rfl rfl rfl) ?_; clear hF; intro a hF
  refine asN hF rfl rfl rfl rfl rfl ?_; clear hF; intro a hF
  refine wpList_nil ?_
  refine then_n ?_
  refine wp_ret ?_
  refine ret_t hF rfl rfl ?_
  exact ⟨_, rfl, congrArg Value.bool (dec_f (fun h9 => by have h8 := okD_I h9; omega)), (hS.sub [] (by decide) (by first | rfl | simp) (by simp))⟩

set_option maxRecDepth 100000 in
theorem dValid2_any (st : ByteArray) (lv : Value) (L : List E67) (rm : Int) (w0 : World) (hv : Rd w0 2 lv (L).length (cells enc67 (L))) (hz : (st.size : Int) ≤ 9223372036854775807) (hL : L.length ≤ 1000000) :
  Fn Try.prog 44 #[.agg #[.string st, lv, .int .i64 rm]] w0 (fun v w' => v = .bool (decide (okD st L rm)) ∧ Sat w0 w' []) := by
 obtain ⟨Alv, clv, rfl⟩ := Rd.form hv
 refine c_enter (N := 55) (l := [_]) Try.func44 rfl rfl (fun a w hF hS => ?_)
 replace hS := hS.addRo hv
 refine c_seq ?_
 refine c_region ?_
 refine seq_wp (wn_none rfl) (wp_box (cs := #[_, _, _]) hF hS rfl rfl rfl rfl rfl ?_)
 clear hF hS; intro a w g396 hF hS
 refine asN hF rfl rfl rfl rfl rfl ?_; clear hF; intro a hF
 refine wpList_nil ?_
 refine then_n ?_
 refine c_seq ?_
 refine c_seq ?_
 refine c_region ?_
 refine seq_yl hF (wn_none rfl) rfl rfl (yl_fieldAddr hF rfl rfl (fun w => by kernel_rfl : ∀ w, (Instr.fieldAt 43 (.pointer (some ⟨g396, 0, none⟩)) 0).run Try.prog w = .ok (.pointer (some ⟨g396, 0, none⟩)) w)) ?_; clear hF; intro a hF
 refine seq_yl hF (wn_none rfl) rfl rfl (yl_load (fun _ h => h ▸ hS) hF rfl rfl 0 rfl ag9 rfl) ?_; clear hF; intro a hF
 refine seq_wp (wn_none rfl) (wp_call (vs := [_]) hF rfl rfl rfl rfl cf68 (imValid2_any st _) ?_)
 clear hF; rintro _ w ⟨rfl, hS1⟩ a hF
 replace hS := hS.callB hS1 rfl; clear hS1
 refine seq_yl hF (wn_none rfl) rfl rfl (yl_un hF rfl rfl (fun _ => run_not)) ?_; clear hF; intro a hF
 refine mvN hF rfl rfl rfl rfl rfl ?_; clear hF; intro a hF
 refine fr_split hF (fun hc397 hF => ?_) (fun hc397 hF => ?_)
 ·first | (replace hc397 := of_decide_eq_true hc397) | (replace hc397 := of_decide_eq_false (bnot_t hc397)) | (subst hc397) | (replace hc397 := bnot_t hc397; subst hc397) | (replace hc397 := bnot_t hc397) | skip
  try (have hc397x := hc397; simp only [okS, okI, okW, okP] at hc397x)
  refine skF hF rfl rfl rfl rfl rfl rfl ?_; clear hF; intro a hF
  refine skF hF rfl rfl rfl rfl rfl rfl ?_; clear hF; intro a hF
  refine skF hF rfl rfl rfl rfl rfl rfl ?_; clear hF; intro a hF
  refine seq_yl hF (wn_none rfl) rfl rfl (pkT hF rfl rfl rfl) ?_; clear hF; intro a hF
  refine mvN hF rfl rfl rfl rfl rfl ?_; clear hF; intro a hF
  refine skF hF rfl rfl rfl rfl rfl rfl ?_; clear hF; intro a hF
  refine skF hF rfl rfl rfl rfl rfl rfl ?_; clear hF; intro a hF
  refine skF hF rfl rfl rfl rfl rfl rfl ?_; clear hF; intro a hF
  refine seq_yl hF (wn_none rfl) rfl rfl (pkT hF rfl rfl rfl) ?_; clear hF; intro a hF
  refine mvN hF rfl rfl rfl rfl rfl ?_; clear hF; intro a hF
  refine skF hF rfl rfl rfl rfl rfl rfl ?_; clear hF; intro a hF
  refine skF hF rfl rfl rfl rfl rfl rfl ?_; clear hF; intro a hF
  refine skF hF rfl rfl rfl rfl rfl rfl ?_; clear hF; intro a hF
  refine skF hF rfl rfl rfl rfl rfl rfl ?_; clear hF; intro a hF
  refine skF hF rfl rfl rfl rfl rfl rfl ?_; clear hF; intro a hF
  refine skF hF rfl rfl rfl rfl rfl rfl ?_; clear hF; intro a hF
  refine seq_yl hF (wn_none rfl) rfl rfl (pkT hF rfl rfl rfl) ?_; clear hF; intro a hF
  refine wpList_nil ?_
  refine then_n ?_
  refine c_cond_t hF rfl ?_
  refine c_seq ?_
  refine c_region ?_
  refine asN hF rfl rfl rfl rfl rfl ?_; clear hF; intro a hF
  refine wpList_nil ?_
  refine then_n ?_
  refine wp_ret ?_
  refine then_r ?_
  refine ret_t hF rfl rfl ?_
  exact ⟨_, rfl, congrArg Value.bool (dec_f (fun h9 => by have h8 := okD_I h9; omega)), (hS.sub [] (by decide) (by first | rfl | simp) (by simp))⟩
 ·first | (replace hc397 := of_decide_eq_false hc397) | (replace hc397 := of_decide_eq_true (bnot_f hc397)) | (subst hc397) | (replace hc397 := bnot_f hc397; subst hc397) | (replace hc397 := bnot_f hc397) | skip
  try (have hc397x := hc397; simp only [okS, okI, okW, okP] at hc397x)
  refine seq_yl hF (wn_t hF rfl rfl rfl rfl) rfl rfl (yl_fieldAddr hF rfl rfl (fun w => by kernel_rfl : ∀ w, (Instr.fieldAt 43 (.pointer (some ⟨g396, 0, none⟩)) 2).run Try.prog w = .ok (.pointer (some ⟨g396, 2, none⟩)) w)) ?_; clear hF; intro a hF
  refine seq_yl hF (wn_t hF rfl rfl rfl rfl) rfl rfl (yl_load (fun _ h => h ▸ hS) hF rfl rfl 0 rfl ag3 rfl) ?_; clear hF; intro a hF
  refine seq_yl hF (wn_t hF rfl rfl rfl rfl) rfl rfl (yl_bin hF rfl rfl rfl rfl (fun _ => run_lss)) ?_; clear hF; intro a hF
  refine seq_yl hF (wn_none rfl) rfl rfl (pkF hF rfl rfl rfl) ?_; clear hF; intro a hF
  refine mvN hF rfl rfl rfl rfl rfl ?_; clear hF; intro a hF
  refine fr_split hF (fun hc398 hF => ?_) (fun hc398 hF => ?_)
  ·first | (replace hc398 := of_decide_eq_true hc398) | (replace hc398 := of_decide_eq_false (bnot_t hc398)) | (subst hc398) | (replace hc398 := bnot_t hc398; subst hc398) | (replace hc398 := bnot_t hc398) | skip
   try (have hc398x := hc398; simp only [okS, okI, okW, okP] at hc398x)
   refine skF hF rfl rfl rfl rfl rfl rfl ?_; clear hF; intro a hF
   refine skF hF rfl rfl rfl rfl rfl rfl ?_; clear hF; intro a hF
   refine skF hF rfl rfl rfl rfl rfl rfl ?_; clear hF; intro a hF
   refine seq_yl hF (wn_none rfl) rfl rfl (pkT hF rfl rfl rfl) ?_; clear hF; intro a hF
   refine mvN hF rfl rfl rfl rfl rfl ?_; clear hF; intro a hF
   refine skF hF rfl rfl rfl rfl rfl rfl ?_; clear hF; intro a hF
   refine skF hF rfl rfl rfl rfl rfl rfl ?_; clear hF; intro a hF
   refine skF hF rfl rfl rfl rfl rfl rfl ?_; clear hF; intro a hF
   refine skF hF rfl rfl rfl rfl rfl rfl ?_; clear hF; intro a hF
   refine skF hF rfl rfl rfl rfl rfl rfl ?_; clear hF; intro a hF
   refine skF hF rfl rfl rfl rfl rfl rfl ?_; clear hF; intro a hF
   refine seq_yl hF (wn_none rfl) rfl rfl (pkT hF rfl rfl rfl) ?_; clear hF; intro a hF
   refine wpList_nil ?_
   refine then_n ?_
   refine c_cond_t hF rfl ?_
   refine c_seq ?_
   refine c_region ?_
   refine asN hF rfl rfl rfl rfl rfl ?_; clear hF; intro a hF
   refine wpList_nil ?_
   refine then_n ?_
   refine wp_ret ?_
   refine then_r ?_
   refine ret_t hF rfl rfl ?_
   exact ⟨_, rfl, congrArg Value.bool (dec_f (fun h9 => by have h8 := okD_I h9; omega)), (hS.sub [] (by decide) (by first | rfl | simp) (by simp))⟩
  ·first | (replace hc398 := of_decide_eq_false hc398) | (replace hc398 := of_decide_eq_true (bnot_f hc398)) | (subst hc398) | (replace hc398 := bnot_f hc398; subst hc398) | (replace hc398 := bnot_f hc398) | skip
   try (have hc398x := hc398; simp only [okS, okI, okW, okP] at hc398x)
   refine seq_yl hF (wn_t hF rfl rfl rfl rfl) rfl rfl (yl_fieldAddr hF rfl rfl (fun w => by kernel_rfl : ∀ w, (Instr.fieldAt 43 (.pointer (some ⟨g396, 0, none⟩)) 2).run Try.prog w = .ok (.pointer (some ⟨g396, 2, none⟩)) w)) ?_; clear hF; intro a hF
   refine seq_yl hF (wn_t hF rfl rfl rfl rfl) rfl rfl (yl_load (fun _ h => h ▸ hS) hF rfl rfl 0 rfl ag3 rfl) ?_; clear hF; intro a hF
   refine seq_yl hF (wn_t hF rfl rfl rfl rfl) rfl rfl (yl_bin hF rfl rfl rfl rfl (fun _ => run_gtr)) ?_; clear hF; intro a hF
   refine seq_yl hF (wn_none rfl) rfl rfl (pkF hF rfl rfl rfl) ?_; clear hF; intro a hF
   refine mvN hF rfl rfl rfl rfl rfl ?_; clear hF; intro a hF
   refine fr_split hF (fun hc399 hF => ?_) (fun hc399 hF => ?_)
   ·first | (replace hc399 := of_decide_eq_true hc399) | (replace hc399 := of_decide_eq_false (bnot_t hc399)) | (subst hc399) | (replace hc399 := bnot_t hc399; subst hc399) | (replace hc399 := bnot_t hc399) | skip
    try (have hc399x := hc399; simp only [okS, okI, okW, okP] at hc399x)
    refine skF hF rfl rfl rfl rfl rfl rfl ?_; clear hF; intro a hF
    refine skF hF rfl rfl rfl rfl rfl rfl ?_; clear hF; intro a hF
    refine skF hF rfl rfl rfl rfl rfl rfl ?_; clear hF; intro a hF
    refine skF hF rfl rfl rfl rfl rfl rfl ?_; clear hF; intro a hF
    refine skF hF rfl rfl rfl rfl rfl rfl ?_; clear hF; intro a hF
    refine skF hF rfl rfl rfl rfl rfl rfl ?_; clear hF; intro a hF
    refine seq_yl hF (wn_none rfl) rfl rfl (pkT hF rfl rfl rfl) ?_; clear hF; intro a hF
    refine wpList_nil ?_
    refine then_n ?_
    refine c_cond_t hF rfl ?_
    refine c_seq ?_
    refine c_region ?_
    refine asN hF rfl rfl rfl rfl rfl ?_; clear hF; intro a hF
    refine wpList_nil ?_
    refine then_n ?_
    refine wp_ret ?_
    refine then_r ?_
    refine ret_t hF rfl rfl ?_
    exact ⟨_, rfl, congrArg Value.bool (dec_f (fun h9 => by have h8 := okD_I h9; omega)), (hS.sub [] (by decide) (by first | rfl | simp) (by simp))⟩
   ·first | (replace hc399 := of_decide_eq_false hc399) | (replace hc399 := of_decide_eq_true (bnot_f hc399)) | (subst hc399) | (replace hc399 := bnot_f hc399; subst hc399) | (replace hc399 := bnot_f hc399) | skip
    try (have hc399x := hc399; simp only [okS, okI, okW, okP] at hc399x)
    refine seq_yl hF (wn_t hF rfl rfl rfl rfl) rfl rfl (yl_fieldAddr hF rfl rfl (fun w => by kernel_rfl : ∀ w, (Instr.fieldAt 43 (.pointer (some ⟨g396, 0, none⟩)) 1).run Try.prog w = .ok (.pointer (some ⟨g396, 1, none⟩)) w)) ?_; clear hF; intro a hF
    refine seq_yl hF (wn_t hF rfl rfl rfl rfl) rfl rfl (yl_load (fun _ h => h ▸ hS) hF rfl rfl 0 rfl ag41 rfl) ?_; clear hF; intro a hF
    refine seq_yl hF (wn_t hF rfl rfl rfl rfl) rfl rfl (yl_len hF rfl rfl (fun _ => run_lenRd sl41 (hS.rdRo 1 rfl))) ?_; clear hF; intro a hF
    refine seq_yl hF (wn_t hF rfl rfl rfl rfl) rfl rfl (yl_fieldAddr hF rfl rfl (fun w => by kernel_rfl : ∀ w, (Instr.fieldAt 43 (.pointer (some ⟨g396, 0, none⟩)) 2).run Try.prog w = .ok (.pointer (some ⟨g396, 2, none⟩)) w)) ?_; clear hF; intro a hF
    refine seq_yl hF (wn_t hF rfl rfl rfl rfl) rfl rfl (yl_load (fun _ h => h ▸ hS) hF rfl rfl 0 rfl ag3 rfl) ?_; clear hF; intro a hF
    refine seq_yl hF (wn_t hF rfl rfl rfl rfl) rfl rfl (yl_bin hF rfl rfl rfl rfl (fun _ => run_gtr)) ?_; clear hF; intro a hF
    refine seq_yl hF (wn_none rfl) rfl rfl (pkF hF rfl rfl rfl) ?_; clear hF; intro a hF
    refine wpList_nil ?_
    refine then_n ?_
    refine c_cond hF rfl (fun hc400 => ?_) (fun hc400 => ?_)
    ·first | (replace hc400 := of_decide_eq_true hc400) | (replace hc400 := of_decide_eq_false (bnot_t hc400)) | (subst hc400) | (replace hc400 := bnot_t hc400; subst hc400) | (replace hc400 := bnot_t hc400) | skip
     try (have hc400x := hc400; simp only [okS, okI, okW, okP] at hc400x)
     refine c_seq ?_
     refine c_region ?_
     refine asN hF rfl rfl rfl rfl rfl ?_; clear hF; intro a hF
     refine wpList_nil ?_
     refine then_n ?_
     refine wp_ret ?_
     refine then_r ?_
     refine ret_t hF rfl rfl ?_
     exact ⟨_, rfl, congrArg Value.bool (dec_f (fun h9 => by have h8 := okD_I h9; omega)), (hS.sub [] (by decide) (by first | rfl | simp) (by simp))⟩
    ·first | (replace hc400 := of_decide_eq_false hc400) | (replace hc400 := of_decide_eq_true (bnot_f hc400)) | (subst hc400) | (replace hc400 := bnot_f hc400; subst hc400) | (replace hc400 := bnot_f hc400) | skip
     try (have hc400x := hc400; simp only [okS, okI, okW, okP] at hc400x)
     refine wp_skip ?_
     refine then_n ?_
     refine c_seq ?_
     refine c_seq ?_
     refine c_region ?_
     refine asN hF rfl rfl rfl rfl rfl ?_; clear hF; intro a hF
     refine wpList_nil ?_
     refine then_n ?_
     refine wp_block ?_
     refine c_loop (fun m a w => ∃ (k : Nat), m = L.length - k ∧ (k ≤ L.length ∧ ∀ p ∈ L.take k, okP (st.size : Int) p) ∧ Fr 55 a [(1, .pointer (some ⟨g396, 0, none⟩)), (3, .int .i64 ((k : Nat) : Int))] ∧ Sat w0 w (.box g396 43 #[.string st, .slice Alv (L).length clv, .int .i64 (rm)] :: .ro 2 (.slice Alv (L).length clv) (L).length (cells enc67 (L)) :: [])) (L.length - 0) ?_ ?_
     ·exact ⟨0, rfl, ⟨Nat.zero_le _, by simp⟩, hF.to [1, 3] rfl, (hS.sub [0, 1] (by decide) (by first | rfl | simp) (by simp))⟩
     ·clear hF hS; try clear hSS
      clear a w; rintro m a w ⟨k, rfl, hinv, hF, hS⟩
      have hk := hinv.1
      refine c_seq ?_
      refine c_seq ?_
      refine c_region ?_
      refine mvN hF rfl rfl rfl rfl rfl ?_; clear hF; intro a hF
      refine seq_yl hF (wn_none rfl) rfl rfl (yl_fieldAddr hF rfl rfl (fun w => by kernel_rfl : ∀ w, (Instr.fieldAt 43 (.pointer (some ⟨g396, 0, none⟩)) 1).run Try.prog w = .ok (.pointer (some ⟨g396, 1, none⟩)) w)) ?_; clear hF; intro a hF
      refine seq_yl hF (wn_none rfl) rfl rfl (yl_load (fun _ h => h ▸ hS) hF rfl rfl 0 rfl ag41 rfl) ?_; clear hF; intro a hF
      refine seq_yl hF (wn_none rfl) rfl rfl (yl_len hF rfl rfl (fun _ => run_lenRd sl41 (hS.rdRo 1 rfl))) ?_; clear hF; intro a hF
      refine seq_yl hF (wn_none rfl) rfl rfl (yl_bin hF rfl rfl rfl rfl (fun _ => run_lss)) ?_; clear hF; intro a hF
      refine wpList_nil ?_
      refine then_n ?_
      refine c_cond hF rfl (fun hc401 => ?_) (fun hc401 => ?_)
      ·first | (replace hc401 := of_decide_eq_true hc401) | (replace hc401 := of_decide_eq_false (bnot_t hc401)) | (subst hc401) | (replace hc401 := bnot_t hc401; subst hc401) | (replace hc401 := bnot_t hc401) | skip
       try (have hc401x := hc401; simp only [okS, okI, okW, okP] at hc401x)
       refine wp_skip ?_
       refine then_n ?_
       refine c_seq ?_
       refine wp_block ?_
       refine c_seq ?_
       refine c_region ?_
       refine seq_yl hF (wn_none rfl) rfl rfl (yl_fieldAddr hF rfl rfl (fun w => by kernel_rfl : ∀ w, (Instr.fieldAt 43 (.pointer (some ⟨g396, 0, none⟩)) 1).run Try.prog w = .ok (.pointer (some ⟨g396, 1, none⟩)) w)) ?_; clear hF; intro a hF
       refine seq_yl hF (wn_none rfl) rfl rfl (yl_load (fun _ h => h ▸ hS) hF rfl rfl 0 rfl ag41 rfl) ?_; clear hF; intro a hF
       refine mvN hF rfl rfl rfl rfl rfl ?_; clear hF; intro a hF
       have hlt_hx402 : k < (L).length := by first | omega | (simp; done) | (simp; omega)
       obtain ⟨ad403, rfl⟩ := rd_some (hS.rdRo 1 rfl) hlt_hx402
       obtain ⟨x402, hx402⟩ := get_some hlt_hx402
       refine seq_yl hF (wn_none rfl) rfl rfl (yl_indexAddr hF rfl rfl rfl (fun _ => run_idx' sl41 sz67 (hS.rdRo 1 rfl) hlt_hx402)) ?_; clear hF; intro a hF
       refine seq_yl hF (wn_none rfl) rfl rfl (yl_loadEl (rs := [.int .i64 (x402.f0), .string x402.f1]) hF rfl rfl ag67 sz67 rfl (fun _ h => rd_cells (enc := enc67) (by subst h; exact hS.rdRo 1 rfl) enc67_len hx402)) ?_; clear hF; intro a hF
       refine seq_wp (wn_none rfl) (wp_alloc (cs := #[_, _]) hF hS rfl rfl rfl zr67 rfl ?_)
       clear hF hS; intro a w g404 hF hS
       refine seq_wp (wn_none rfl) (wp_store (cs' := #[_, _]) hF hS rfl rfl rfl rfl 0 rfl sz67 (by simp [Value.cells, Value.oneCell']) (by simp [Value.cells]) rfl ?_)
       clear hF hS; intro a w hF hS
       refine wpList_nil ?_
       refine then_n ?_
       refine c_seq ?_
       refine ha_startS hS [0, 1] 16 (by kernel_rfl) ?_; clear hS; intro w hS
       have hSS := hS.sub [0, 1] (by decide) rfl (by simp)
       refine ha_y 0 hF rfl rfl rfl (wn_none rfl) (.inr hSS) (yl_fieldAddr hF rfl rfl (fun w => by kernel_rfl : ∀ w, (Instr.fieldAt 67 (.pointer (some ⟨g404, 0, none⟩)) 0).run Try.prog w = .ok (.pointer (some ⟨g404, 0, none⟩)) w)) ?_; clear hF; intro a hF
       refine ha_l 1 hF rfl rfl rfl (wn_none rfl) hSS (yl_load (fun _ h => h) hF rfl rfl 0 rfl ag3 rfl) ?_; clear hF; intro a hF
       refine ha_y 2 hF rfl rfl rfl (wn_none rfl) (.inr hSS) (yl_bin hF rfl rfl rfl rfl (fun _ => run_lss)) ?_; clear hF; intro a hF
       refine ha_y 3 hF rfl rfl rfl (wn_none rfl) (.inr hSS) (yl_move hF rfl rfl) ?_; clear hF; intro a hF
       refine fr_split hF (fun hc405 hF => ?_) (fun hc405 hF => ?_)
       ·first | (replace hc405 := of_decide_eq_true hc405) | (replace hc405 := of_decide_eq_false (bnot_t hc405)) | (subst hc405) | (replace hc405 := bnot_t hc405; subst hc405) | (replace hc405 := bnot_t hc405) | skip
        try (have hc405x := hc405; simp only [okS, okI, okW, okP] at hc405x)
        refine ha_s 4 hF rfl rfl rfl (wn_f hF rfl rfl rfl rfl) (.inr hSS) ?_; clear hF; intro a hF
        refine ha_s 5 hF rfl rfl rfl (wn_f hF rfl rfl rfl rfl) (.inr hSS) ?_; clear hF; intro a hF
        refine ha_s 6 hF rfl rfl rfl (wn_f hF rfl rfl rfl rfl) (.inr hSS) ?_; clear hF; intro a hF
        refine ha_s 7 hF rfl rfl rfl (wn_f hF rfl rfl rfl rfl) (.inr hSS) ?_; clear hF; intro a hF
        refine ha_s 8 hF rfl rfl rfl (wn_f hF rfl rfl rfl rfl) (.inr hSS) ?_; clear hF; intro a hF
        refine ha_y 9 hF rfl rfl rfl (wn_none rfl) (.inr hSS) (pkT hF rfl rfl rfl) ?_; clear hF; intro a hF
        refine ha_y 10 hF rfl rfl rfl (wn_none rfl) (.inr hSS) (yl_move hF rfl rfl) ?_; clear hF; intro a hF
        refine ha_s 11 hF rfl rfl rfl (wn_f hF rfl rfl rfl rfl) (.inr hSS) ?_; clear hF; intro a hF
        refine ha_s 12 hF rfl rfl rfl (wn_f hF rfl rfl rfl rfl) (.inr hSS) ?_; clear hF; intro a hF
        refine ha_s 13 hF rfl rfl rfl (wn_f hF rfl rfl rfl rfl) (.inr hSS) ?_; clear hF; intro a hF
        refine ha_s 14 hF rfl rfl rfl (wn_f hF rfl rfl rfl rfl) (.inr hSS) ?_; clear hF; intro a hF
        refine ha_y 15 hF rfl rfl rfl (wn_none rfl) (.inr hSS) (pkT hF rfl rfl rfl) ?_; clear hF; intro a hF
        refine ha_done (by kernel_rfl) ?_ _
        refine then_n ?_
        refine c_cond_t hF rfl ?_
        refine c_seq ?_
        refine c_region ?_
        refine asN hF rfl rfl rfl rfl rfl ?_; clear hF; intro a hF
        refine wpList_nil ?_
        refine then_n ?_
        refine wp_ret ?_
        refine inb_r ?_
        refine then_r ?_
        refine then_r ?_
        refine inb_r ?_
        refine then_r ?_
        refine ret_t hF rfl rfl ?_
        exact ⟨_, rfl, congrArg Value.bool (valid_bad hx402 (fun h9 => by simp only [okP, okS, okI] at h9; omega)), (hS.sub [] (by decide) (by first | rfl | simp) (by simp))⟩
       ·first | (replace hc405 := of_decide_eq_false hc405) | (replace hc405 := of_decide_eq_true (bnot_f hc405)) | (subst hc405) | (replace hc405 := bnot_f hc405; subst hc405) | (replace hc405 := bnot_f hc405) | skip
        try (have hc405x := hc405; simp only [okS, okI, okW, okP] at hc405x)
        refine ha_y 4 hF rfl rfl rfl (wn_t hF rfl rfl rfl rfl) (.inr hSS) (yl_fieldAddr hF rfl rfl (fun w => by kernel_rfl : ∀ w, (Instr.fieldAt 67 (.pointer (some ⟨g404, 0, none⟩)) 0).run Try.prog w = .ok (.pointer (some ⟨g404, 0, none⟩)) w)) ?_; clear hF; intro a hF
        refine ha_l 5 hF rfl rfl rfl (wn_t hF rfl rfl rfl rfl) hSS (yl_load (fun _ h => h) hF rfl rfl 0 rfl ag3 rfl) ?_; clear hF; intro a hF
        refine ha_l 6 hF rfl rfl rfl (wn_t hF rfl rfl rfl rfl) hSS (yl_loadK (rs := [_, _, _]) (fun _ h => h) hF rfl rfl 1 rfl ag43 sz43 rfl rfl) ?_; clear hF; intro a hF
        refine ha_one 7 (by kernel_rfl) rfl (wn_t hF rfl rfl rfl rfl) (wp_call (vs := [_]) hF rfl rfl rfl rfl cf30 (secs_any st _ _ _ (by omega)) ?_)
        clear hF; rintro _ w ⟨rfl, hS1⟩ a hF
        replace hS := hS.callB hS1 rfl; clear hS1
        replace hSS := hS.sub [0, 1] (by decide) rfl (by simp)
        refine ⟨.inr hSS, ?_⟩
        refine ha_y 8 hF rfl rfl rfl (wn_t hF rfl rfl rfl rfl) (.inr hSS) (yl_bin hF rfl rfl rfl rfl (fun _ => run_geq)) ?_; clear hF; intro a hF
        refine ha_y 9 hF rfl rfl rfl (wn_none rfl) (.inr hSS) (pkF hF rfl rfl rfl) ?_; clear hF; intro a hF
        refine ha_y 10 hF rfl rfl rfl (wn_none rfl) (.inr hSS) (yl_move hF rfl rfl) ?_; clear hF; intro a hF
        refine fr_split hF (fun hc406 hF => ?_) (fun hc406 hF => ?_)
        ·first | (replace hc406 := of_decide_eq_true hc406) | (replace hc406 := of_decide_eq_false (bnot_t hc406)) | (subst hc406) | (replace hc406 := bnot_t hc406; subst hc406) | (replace hc406 := bnot_t hc406) | skip
         try (have hc406x := hc406; simp only [okS, okI, okW, okP] at hc406x)
         refine ha_s 11 hF rfl rfl rfl (wn_f hF rfl rfl rfl rfl) (.inr hSS) ?_; clear hF; intro a hF
         refine ha_s 12 hF rfl rfl rfl (wn_f hF rfl rfl rfl rfl) (.inr hSS) ?_; clear hF; intro a hF
         refine ha_s 13 hF rfl rfl rfl (wn_f hF rfl rfl rfl rfl) (.inr hSS) ?_; clear hF; intro a hF
         refine ha_s 14 hF rfl rfl rfl (wn_f hF rfl rfl rfl rfl) (.inr hSS) ?_; clear hF; intro a hF
         refine ha_y 15 hF rfl rfl rfl (wn_none rfl) (.inr hSS) (pkT hF rfl rfl rfl) ?_; clear hF; intro a hF
         refine ha_done (by kernel_rfl) ?_ _
         refine then_n ?_
         refine c_cond_t hF rfl ?_
         refine c_seq ?_
         refine c_region ?_
         refine asN hF rfl rfl rfl rfl rfl ?_; clear hF; intro a hF
         refine wpList_nil ?_
         refine then_n ?_
         refine wp_ret ?_
         refine inb_r ?_
         refine then_r ?_
         refine then_r ?_
         refine inb_r ?_
         refine then_r ?_
         refine ret_t hF rfl rfl ?_
         exact ⟨_, rfl, congrArg Value.bool (valid_bad hx402 (fun h9 => by simp only [okP, okS, okI] at h9; omega)), (hS.sub [] (by decide) (by first | rfl | simp) (by simp))⟩
        ·first | (replace hc406 := of_decide_eq_false hc406) | (replace hc406 := of_decide_eq_true (bnot_f hc406)) | (subst hc406) | (replace hc406 := bnot_f hc406; subst hc406) | (replace hc406 := bnot_f hc406) | skip
         try (have hc406x := hc406; simp only [okS, okI, okW, okP] at hc406x)
         refine ha_y 11 hF rfl rfl rfl (wn_t hF rfl rfl rfl rfl) (.inr hSS) (yl_fieldAddr hF rfl rfl (fun w => by kernel_rfl : ∀ w, (Instr.fieldAt 67 (.pointer (some ⟨g404, 0, none⟩)) 1).run Try.prog w = .ok (.pointer (some ⟨g404, 1, none⟩)) w)) ?_; clear hF; intro a hF
         refine ha_l 12 hF rfl rfl rfl (wn_t hF rfl rfl rfl rfl) hSS (yl_load (fun _ h => h) hF rfl rfl 0 rfl ag9 rfl) ?_; clear hF; intro a hF
         refine ha_y 13 hF rfl rfl rfl (wn_t hF rfl rfl rfl rfl) (.inr hSS) (yl_len hF rfl rfl (fun _ => run_lenStr Try.underlying9)) ?_; clear hF; intro a hF
         refine ha_y 14 hF rfl rfl rfl (wn_t hF rfl rfl rfl rfl) (.inr hSS) (yl_bin hF rfl rfl rfl rfl (fun _ => run_neq)) ?_; clear hF; intro a hF
         refine ha_y 15 hF rfl rfl rfl (wn_none rfl) (.inr hSS) (pkF hF rfl rfl rfl) ?_; clear hF; intro a hF
         refine ha_done (by kernel_rfl) ?_ _
         refine then_n ?_
         refine c_cond hF rfl (fun hc407 => ?_) (fun hc407 => ?_)
         ·first | (replace hc407 := of_decide_eq_true hc407) | (replace hc407 := of_decide_eq_false (bnot_t hc407)) | (subst hc407) | (replace hc407 := bnot_t hc407; subst hc407) | (replace hc407 := bnot_t hc407) | skip
          try (have hc407x := hc407; simp only [okS, okI, okW, okP] at hc407x)
          refine c_seq ?_
          refine c_region ?_
          refine asN hF rfl rfl rfl rfl rfl ?_; clear hF; intro a hF
          refine wpList_nil ?_
          refine then_n ?_
          refine wp_ret ?_
          refine inb_r ?_
          refine then_r ?_
          refine then_r ?_
          refine inb_r ?_
          refine then_r ?_
          refine ret_t hF rfl rfl ?_
          exact ⟨_, rfl, congrArg Value.bool (valid_bad hx402 (fun h9 => by simp only [okP, okS, okI] at h9; omega)), (hS.sub [] (by decide) (by first | rfl | simp) (by simp))⟩
         ·first | (replace hc407 := of_decide_eq_false hc407) | (replace hc407 := of_decide_eq_true (bnot_f hc407)) | (subst hc407) | (replace hc407 := bnot_f hc407; subst hc407) | (replace hc407 := bnot_f hc407) | skip
          try (have hc407x := hc407; simp only [okS, okI, okW, okP] at hc407x)
          refine wp_skip ?_
          refine inb_n ?_
          refine then_n ?_
          refine c_region ?_
          refine mvN hF rfl rfl rfl rfl rfl ?_; clear hF; intro a hF
          refine seq_yl hF (wn_none rfl) rfl rfl (yl_bin hF rfl rfl rfl rfl (fun _ => run_inc (by omega))) ?_; clear hF; intro a hF
          refine asN hF rfl rfl rfl rfl rfl ?_; clear hF; intro a hF
          refine wpList_nil ?_
          refine then_n ?_
          exact ⟨_, (by omega), k + 1, rfl, ⟨by omega, all_takeP hinv.2 hx402 (by unfold okP okS okI; omega)⟩, hF.to [1, 3] rfl, (hS.sub [1, 2] (by decide) (by first | rfl | simp) (by simp))⟩
      ·first | (replace hc401 := of_decide_eq_false hc401) | (replace hc401 := of_decide_eq_true (bnot_f hc401)) | (subst hc401) | (replace hc401 := bnot_f hc401; subst hc401) | (replace hc401 := bnot_f hc401) | skip
       try (have hc401x := hc401; simp only [okS, okI, okW, okP] at hc401x)
       refine wp_exit ?_
       refine then_x ?_
       refine then_x ?_
       refine inb_x ?_
       refine then_n ?_
       refine c_seq ?_
       refine c_region ?_
       refine asN hF rfl rfl rfl rfl rfl ?_; clear hF; intro a hF
       refine wpList_nil ?_
       refine then_n ?_
       refine wp_ret ?_
       refine ret_t hF rfl rfl ?_
       exact ⟨_, rfl, congrArg Value.bool (valid_all (by assumption) (by omega) (by omega) (by omega) hinv.2 (by omega)), (hS.sub [] (by decide) (by first | rfl | simp) (by simp))⟩

end Go.Proofs.Ytkejcnhfbfgphaa

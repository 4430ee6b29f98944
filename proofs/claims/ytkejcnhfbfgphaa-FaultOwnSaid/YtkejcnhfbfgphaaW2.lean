/- walks, printed by wip/gen -/
import Derived.Test.YtkejcnhfbfgphaaW1
namespace Go.Proofs.Ytkejcnhfbfgphaa
open Go.RowKit
set_option linter.unusedVariables false
set_option linter.unusedSimpArgs false

set_option maxRecDepth 100000 in
theorem cloneR_any (v : Value) (L : List E37) (w0 : World) (h : Rd w0 9 v (L).length (cells enc37 (L))) (hn : L.length ≤ 1000000) :
  Fn Try.prog 33 #[v] w0 (fun v w' => ∃ v1, v = v1 ∧ Sat w0 w' [.row 37 9 v1 (L).length (cells enc37 (L))]) := by
 obtain ⟨Av, cv, rfl⟩ := Rd.form h
 refine c_enter (N := 8) (l := [_]) Try.func33 rfl rfl (fun a w hF hS => ?_)
 replace hS := hS.addRo h
 refine c_seq ?_
 refine c_region ?_
 refine asN hF rfl rfl rfl rfl rfl ?_; clear hF; intro a hF
 refine wpList_nil ?_
 refine then_n ?_
 refine c_seq ?_
 refine c_seq ?_
 refine c_region ?_
 refine mvN hF rfl rfl rfl rfl rfl ?_; clear hF; intro a hF
 refine seq_yl hF (wn_none rfl) rfl rfl (yl_bin hF rfl rfl rfl rfl (fun _ => run_slnil sl23)) ?_; clear hF; intro a hF
 refine wpList_nil ?_
 refine then_n ?_
 refine c_cond hF rfl (fun hc149 => ?_) (fun hc149 => ?_)
 ·first | (replace hc149 := of_decide_eq_true hc149) | (replace hc149 := of_decide_eq_false (bnot_t hc149)) | (subst hc149) | (replace hc149 := bnot_t hc149; subst hc149) | (replace hc149 := bnot_t hc149) | skip
  refine c_seq ?_
  refine c_region ?_
  refine asN hF rfl rfl rfl rfl rfl ?_; clear hF; intro a hF
  refine wpList_nil ?_
  refine then_n ?_
  refine wp_ret ?_
  refine then_r ?_
  refine ret_t hF rfl rfl ?_
  obtain rfl := rd_none h (by assumption)
  replace hS := hS.addNil 37 9
  exact ⟨_, rfl, _, rfl, (hS.sub [0] (by decide) (by first | rfl | simp) (by simp))⟩
 ·first | (replace hc149 := of_decide_eq_false hc149) | (replace hc149 := of_decide_eq_true (bnot_f hc149)) | (subst hc149) | (replace hc149 := bnot_f hc149; subst hc149) | (replace hc149 := bnot_f hc149) | skip
  refine wp_skip ?_
  refine then_n ?_
  refine c_seq ?_
  refine c_region ?_
  refine seq_wp (wn_none rfl) (wp_bslice (parts := []) (vs := []) (enc := enc37) (e := 37) (size := 9) (cs := #[]) hF hS rfl rfl rfl rfl ([] : List E37) (fun w => by kernel_rfl) rfl rfl rfl (by decide) ?_)
  clear hF hS; intro a w v151 hF hS
  obtain ⟨Av151, cv151, rfl⟩ := hS.form 0 rfl
  refine mvN hF rfl rfl rfl rfl rfl ?_; clear hF; intro a hF
  refine seq_wp (wn_none rfl) (wp_app (enc := enc37) hF hS rfl rfl rfl rfl rfl 0 rfl sl23 inf37 rfl (by decide) (hS.rdRo 1 rfl) enc37_one (by decide) (by first | omega | (simp only [List.length_append, List.length_cons, List.length_nil]; omega) | (simp; omega)) ?_)
  clear hF hS; intro a w v152 hF hS
  obtain ⟨Av152, cv152, rfl⟩ := hS.form 0 rfl
  refine asN hF rfl rfl rfl rfl rfl ?_; clear hF; intro a hF
  refine wpList_nil ?_
  refine then_n ?_
  refine wp_ret ?_
  refine ret_t hF rfl rfl ?_
  exact ⟨_, rfl, _, rfl, (hS.sub [0] (by decide) (by first | rfl | simp) (by simp))⟩

set_option maxRecDepth 100000 in
theorem indexR_any {k : FuncId} {caps : List Value} {p : E37 → Bool} {H : List Chunk} (w0 w : World) (v : Value) (L : List E37) (hcf : ∀ (args : Array Value) (w : World), (callFunc k args).run Try.prog w = .ok (.enter k args) w) (hp : PredOn Try.prog w0 H k caps (fun x : E37 => .agg #[.int .i64 x.f0, .int .i64 x.f1, .int .i64 x.f2, .int .i64 x.f3, .int .i64 x.f4, .int .i64 x.f5, .int .i64 x.f6, .bool x.f7, .int .i64 x.f8]) p) (hr : ∀ w, Sat w0 w H → Rd w 9 v (L).length (cells enc37 (L))) (hS : Sat w0 w H) (hL : L.length ≤ 1000000) :
  Fn Try.prog 59 #[v, .func (.func k) #[] caps.toArray] w (fun v w' => v = .int .i64 (idxF p L) ∧ Sat w0 w' H) := by
 obtain ⟨Av, cv, rfl⟩ := (hr _ hS).form
 refine c_enterS (N := 19) (l := [_, _]) Try.func59 rfl rfl (fun a hF => ?_)
 refine c_seq ?_
 refine c_region ?_
 refine asN hF rfl rfl rfl rfl rfl ?_; clear hF; intro a hF
 refine wpList_nil ?_
 refine then_n ?_
 refine c_seq ?_
 refine c_seq ?_
 refine c_region ?_
 refine mvN hF rfl rfl rfl rfl rfl ?_; clear hF; intro a hF
 refine seq_yl hF (wn_none rfl) rfl rfl (yl_len hF rfl rfl (fun _ => run_lenRd sl23 (hr _ hS))) ?_; clear hF; intro a hF
 refine mvN hF rfl rfl rfl rfl rfl ?_; clear hF; intro a hF
 refine wpList_nil ?_
 refine then_n ?_
 refine wp_block ?_
 refine c_loop (fun m a w => ∃ (k0 : Nat), m = L.length - k0 ∧ (k0 ≤ L.length ∧ ∀ x ∈ L.take k0, p x = false) ∧ Fr 19 a [(0, .slice Av L.length cv), (1, .func (.func k) #[] caps.toArray), (7, .int .i64 (((L).length : Nat) : Int)), (8, .int .i64 ((k0 : Nat) : Int))] ∧ Sat w0 w (H)) (L.length - 0) ?_ ?_
 ·exact ⟨0, rfl, ⟨Nat.zero_le _, by simp⟩, hF.to [0, 1, 7, 8] rfl, (hS.subT 0 [] (by decide) (by first | rfl | simp) (by simp) (by simp))⟩
 ·clear hF hS; try clear hSS
  clear a w; rintro m a w ⟨k0, rfl, hinv, hF, hS⟩
  have hk := hinv.1
  refine c_seq ?_
  refine c_region ?_
  refine seq_yl hF (wn_none rfl) rfl rfl (yl_bin hF rfl rfl rfl rfl (fun _ => run_lss)) ?_; clear hF; intro a hF
  refine wpList_nil ?_
  refine then_n ?_
  refine c_seq ?_
  refine c_cond hF rfl (fun hc153 => ?_) (fun hc153 => ?_)
  ·first | (replace hc153 := of_decide_eq_true hc153) | (replace hc153 := of_decide_eq_false (bnot_t hc153)) | (subst hc153) | (replace hc153 := bnot_t hc153; subst hc153) | (replace hc153 := bnot_t hc153) | skip
   refine wp_skip ?_
   refine then_n ?_
   refine c_seq ?_
   refine wp_block ?_
   refine c_seq ?_
   refine c_region ?_
   refine mvN hF rfl rfl rfl rfl rfl ?_; clear hF; intro a hF
   refine asN hF rfl rfl rfl rfl rfl ?_; clear hF; intro a hF
   refine wpList_nil ?_
   refine then_n ?_
   refine c_seq ?_
   refine c_region ?_
   refine mvN hF rfl rfl rfl rfl rfl ?_; clear hF; intro a hF
   refine mvN hF rfl rfl rfl rfl rfl ?_; clear hF; intro a hF
   refine mvN hF rfl rfl rfl rfl rfl ?_; clear hF; intro a hF
   have hlt_hx154 : k0 < (L).length := by first | omega | (simp; done) | (simp; omega)
   obtain ⟨ad155, rfl⟩ := rd_some (hr _ hS) hlt_hx154
   obtain ⟨x154, hx154⟩ := get_some hlt_hx154
   refine seq_yl hF (wn_none rfl) rfl rfl (yl_indexAddr hF rfl rfl rfl (fun _ => run_idx' sl23 sz37 (hr _ hS) hlt_hx154)) ?_; clear hF; intro a hF
   refine seq_yl hF (wn_none rfl) rfl rfl (yl_loadEl (rs := [.int .i64 (x154.f0), .int .i64 (x154.f1), .int .i64 (x154.f2), .int .i64 (x154.f3), .int .i64 (x154.f4), .int .i64 (x154.f5), .int .i64 (x154.f6), .bool x154.f7, .int .i64 (x154.f8)]) hF rfl rfl ag37 sz37 rfl (fun _ h => rd_cells (enc := enc37) (by subst h; exact hr _ hS) enc37_len hx154)) ?_; clear hF; intro a hF
   refine seq_wp (wn_none rfl) (wp_callC (f := k) (vs := [_]) (caps := caps) hF rfl rfl rfl rfl rfl hcf (hp x154 _ hS) ?_)
   clear hF hS; rintro _ w ⟨rfl, hS⟩ a hF
   refine wpList_nil ?_
   refine then_n ?_
   refine c_cond hF rfl (fun hc156 => ?_) (fun hc156 => ?_)
   ·first | (replace hc156 := of_decide_eq_true hc156) | (replace hc156 := of_decide_eq_false (bnot_t hc156)) | (subst hc156) | (replace hc156 := bnot_t hc156; subst hc156) | (replace hc156 := bnot_t hc156) | skip
    refine c_seq ?_
    refine c_region ?_
    refine mvN hF rfl rfl rfl rfl rfl ?_; clear hF; intro a hF
    refine asN hF rfl rfl rfl rfl rfl ?_; clear hF; intro a hF
    refine wpList_nil ?_
    refine then_n ?_
    refine wp_ret ?_
    refine inb_r ?_
    refine then_r ?_
    refine then_r ?_
    refine inb_r ?_
    refine then_r ?_
    refine ret_t hF rfl rfl ?_
    exact ⟨_, rfl, congrArg (Value.int .i64) (idx_hit hx154 (by assumption) hinv.2), hS⟩
   ·first | (replace hc156 := of_decide_eq_false hc156) | (replace hc156 := of_decide_eq_true (bnot_f hc156)) | (subst hc156) | (replace hc156 := bnot_f hc156; subst hc156) | (replace hc156 := bnot_f hc156) | skip
    refine wp_skip ?_
    refine inb_n ?_
    refine then_n ?_
    refine c_region ?_
    refine seq_yl hF (wn_none rfl) rfl rfl (yl_bin hF rfl rfl rfl rfl (fun _ => run_inc (by omega))) ?_; clear hF; intro a hF
    refine mvN hF rfl rfl rfl rfl rfl ?_; clear hF; intro a hF
    refine wpList_nil ?_
    refine then_n ?_
    exact ⟨_, (by omega), k0 + 1, rfl, ⟨by omega, all_not_step hx154 (by assumption) hinv.2⟩, hF.to [0, 1, 7, 8] rfl, (hS.subT 0 [] (by decide) (by first | rfl | simp) (by simp) (by simp))⟩
  ·first | (replace hc153 := of_decide_eq_false hc153) | (replace hc153 := of_decide_eq_true (bnot_f hc153)) | (subst hc153) | (replace hc153 := bnot_f hc153; subst hc153) | (replace hc153 := bnot_f hc153) | skip
   refine wp_exit ?_
   refine then_x ?_
   refine then_x ?_
   refine inb_x ?_
   refine then_n ?_
   refine c_seq ?_
   refine c_region ?_
   refine asN hF rfl rfl rfl rfl rfl ?_; clear hF; intro a hF
   refine wpList_nil ?_
   refine then_n ?_
   refine wp_ret ?_
   refine ret_t hF rfl rfl ?_
   exact ⟨_, rfl, congrArg (Value.int .i64) (idx_none hinv.2 (by omega)), hS⟩

set_option maxRecDepth 100000 in
theorem containsR_any {k : FuncId} {caps : List Value} {p : E37 → Bool} {H : List Chunk} (w0 w : World) (v : Value) (L : List E37) (hcf : ∀ (args : Array Value) (w : World), (callFunc k args).run Try.prog w = .ok (.enter k args) w) (hp : PredOn Try.prog w0 H k caps (fun x : E37 => .agg #[.int .i64 x.f0, .int .i64 x.f1, .int .i64 x.f2, .int .i64 x.f3, .int .i64 x.f4, .int .i64 x.f5, .int .i64 x.f6, .bool x.f7, .int .i64 x.f8]) p) (hr : ∀ w, Sat w0 w H → Rd w 9 v (L).length (cells enc37 (L))) (hS : Sat w0 w H) (hL : L.length ≤ 1000000) :
  Fn Try.prog 36 #[v, .func (.func k) #[] caps.toArray] w (fun v w' => v = .bool (L.any p) ∧ Sat w0 w' H) := by
 obtain ⟨Av, cv, rfl⟩ := (hr _ hS).form
 refine c_enterS (N := 9) (l := [_, _]) Try.func36 rfl rfl (fun a hF => ?_)
 refine c_seq ?_
 refine c_region ?_
 refine asN hF rfl rfl rfl rfl rfl ?_; clear hF; intro a hF
 refine wpList_nil ?_
 refine then_n ?_
 refine c_seq ?_
 refine c_region ?_
 refine mvN hF rfl rfl rfl rfl rfl ?_; clear hF; intro a hF
 refine mvN hF rfl rfl rfl rfl rfl ?_; clear hF; intro a hF
 refine seq_wp (wn_none rfl) (wp_call (vs := [_, _]) hF rfl rfl rfl rfl cf59 (indexR_any (k := k) (caps := caps) (p := p) _ _ _ L hcf hp hr hS hL) ?_)
 clear hF hS; rintro _ w ⟨rfl, hS⟩ a hF
 refine seq_yl hF (wn_none rfl) rfl rfl (yl_bin hF rfl rfl rfl rfl (fun _ => run_geq)) ?_; clear hF; intro a hF
 refine asN hF rfl rfl rfl rfl rfl ?_; clear hF; intro a hF
 refine wpList_nil ?_
 refine then_n ?_
 refine wp_ret ?_
 refine ret_t hF rfl rfl ?_
 exact ⟨_, rfl, congrArg Value.bool (cont_idx p L), hS⟩

set_option maxRecDepth 100000 in
theorem clScript (w0 w : World) (H : List Chunk) (x : E37) (hS : Sat w0 w H) :
  Fn Try.prog 58 #[.agg #[.int .i64 x.f0, .int .i64 x.f1, .int .i64 x.f2, .int .i64 x.f3, .int .i64 x.f4, .int .i64 x.f5, .int .i64 x.f6, .bool x.f7, .int .i64 x.f8]] w (fun v w' => v = .bool (!(decide (validR x))) ∧ Sat w0 w' H) := by
 refine c_enterS (N := 6) (l := [_]) Try.func58 rfl rfl (fun a hF => ?_)
 refine c_seq ?_
 refine c_region ?_
 refine seq_wp (wn_none rfl) (wp_box (cs := #[_, _, _, _, _, _, _, _, _]) hF hS rfl rfl rfl rfl rfl ?_)
 clear hF hS; intro a w g157 hF hS
 refine asN hF rfl rfl rfl rfl rfl ?_; clear hF; intro a hF
 refine wpList_nil ?_
 refine then_n ?_
 refine c_seq ?_
 refine c_region ?_
 refine seq_yl hF (wn_none rfl) rfl rfl (yl_loadK (rs := [_, _, _, _, _, _, _, _, _]) (fun _ h => h ▸ hS) hF rfl rfl 0 rfl ag37 sz37 rfl rfl) ?_; clear hF; intro a hF
 refine seq_wp (wn_none rfl) (wp_call (vs := [_]) hF rfl rfl rfl rfl cf23 (valid_any x _) ?_)
 clear hF; rintro _ w ⟨rfl, hS1⟩ a hF
 replace hS := hS.callB hS1 rfl; clear hS1
 refine seq_yl hF (wn_none rfl) rfl rfl (yl_un hF rfl rfl (fun _ => run_not)) ?_; clear hF; intro a hF
 refine asN hF rfl rfl rfl rfl rfl ?_; clear hF; intro a hF
 refine wpList_nil ?_
 refine then_n ?_
 refine wp_ret ?_
 refine ret_t hF rfl rfl ?_
 exact ⟨_, rfl, rfl, (hS.subT 1 [] (by decide) (by first | rfl | simp) (by simp) (by simp))⟩

set_option maxRecDepth 100000 in
theorem clQuiet (w0 w : World) (H : List Chunk) (x : E37) (hS : Sat w0 w H) :
  Fn Try.prog 37 #[.agg #[.int .i64 x.f0, .int .i64 x.f1, .int .i64 x.f2, .int .i64 x.f3, .int .i64 x.f4, .int .i64 x.f5, .int .i64 x.f6, .bool x.f7, .int .i64 x.f8]] w (fun v w' => v = .bool (decide (x.f4 ≠ 0)) ∧ Sat w0 w' H) := by
 refine c_enterS (N := 6) (l := [_]) Try.func37 rfl rfl (fun a hF => ?_)
 refine c_seq ?_
 refine c_region ?_
 refine seq_wp (wn_none rfl) (wp_box (cs := #[_, _, _, _, _, _, _, _, _]) hF hS rfl rfl rfl rfl rfl ?_)
 clear hF hS; intro a w g158 hF hS
 refine asN hF rfl rfl rfl rfl rfl ?_; clear hF; intro a hF
 refine wpList_nil ?_
 refine then_n ?_
 refine c_seq ?_
 refine c_region ?_
 refine seq_yl hF (wn_none rfl) rfl rfl (yl_fieldAddr hF rfl rfl (fun w => by kernel_rfl : ∀ w, (Instr.fieldAt 37 (.pointer (some ⟨g158, 0, none⟩)) 4).run Try.prog w = .ok (.pointer (some ⟨g158, 4, none⟩)) w)) ?_; clear hF; intro a hF
 refine seq_yl hF (wn_none rfl) rfl rfl (yl_load (fun _ h => h ▸ hS) hF rfl rfl 0 rfl ag3 rfl) ?_; clear hF; intro a hF
 refine seq_yl hF (wn_none rfl) rfl rfl (yl_bin hF rfl rfl rfl rfl (fun _ => run_neq)) ?_; clear hF; intro a hF
 refine asN hF rfl rfl rfl rfl rfl ?_; clear hF; intro a hF
 refine wpList_nil ?_
 refine then_n ?_
 refine wp_ret ?_
 refine ret_t hF rfl rfl ?_
 exact ⟨_, rfl, rfl, (hS.subT 1 [] (by decide) (by first | rfl | simp) (by simp) (by simp))⟩

set_option maxRecDepth 100000 in
theorem script_any (v : Value) (L : List E37) (w0 : World) (hv : Rd w0 9 v (L).length (cells enc37 (L))) (hL : L.length ≤ 1000000) :
  Fn Try.prog 34 #[v] w0 (fun v w' => v = .bool (scriptB L) ∧ Sat w0 w' []) := by
 obtain ⟨Av, cv, rfl⟩ := Rd.form hv
 refine c_enter (N := 11) (l := [_]) Try.func34 rfl rfl (fun a w hF hS => ?_)
 replace hS := hS.addRo hv
 refine c_seq ?_
 refine c_region ?_
 refine asN hF rfl rfl rfl rfl rfl ?_; clear hF; intro a hF
 refine wpList_nil ?_
 refine then_n ?_
 refine c_seq ?_
 refine c_region ?_
 refine mvN hF rfl rfl rfl rfl rfl ?_; clear hF; intro a hF
 refine seq_yl hF (wn_none rfl) rfl rfl (yl_len hF rfl rfl (fun _ => run_lenRd sl23 (hS.rdRo 0 rfl))) ?_; clear hF; intro a hF
 refine seq_yl hF (wn_none rfl) rfl rfl (yl_bin hF rfl rfl rfl rfl (fun _ => run_leq)) ?_; clear hF; intro a hF
 refine mvN hF rfl rfl rfl rfl rfl ?_; clear hF; intro a hF
 refine fr_split hF (fun hc159 hF => ?_) (fun hc159 hF => ?_)
 ·first | (replace hc159 := of_decide_eq_true hc159) | (replace hc159 := of_decide_eq_false (bnot_t hc159)) | (subst hc159) | (replace hc159 := bnot_t hc159; subst hc159) | (replace hc159 := bnot_t hc159) | skip
  refine seq_yl hF (wn_t hF rfl rfl rfl rfl) rfl rfl (yl_move hF rfl rfl) ?_; clear hF; intro a hF
  refine seq_wp (wn_t hF rfl rfl rfl rfl) (wp_call (vs := [_, _]) hF rfl rfl rfl rfl cf36 (containsR_any (k := 58) (caps := []) (p := (fun x : E37 => !(decide (validR x)))) _ _ _ L cf58 (fun x w h => clScript _ _ _ x h) (fun w h => Sat.rdRo h 0 rfl) hS (by first | omega | (simp; done) | (simp; omega))) ?_)
  clear hF hS; rintro _ w ⟨rfl, hS⟩ a hF
  refine seq_yl hF (wn_t hF rfl rfl rfl rfl) rfl rfl (yl_un hF rfl rfl (fun _ => run_not)) ?_; clear hF; intro a hF
  refine seq_yl hF (wn_none rfl) rfl rfl (pkT hF rfl rfl rfl) ?_; clear hF; intro a hF
  refine asN hF rfl rfl rfl rfl rfl ?_; clear hF; intro a hF
  refine wpList_nil ?_
  refine then_n ?_
  refine wp_ret ?_
  refine ret_t hF rfl rfl ?_
  exact ⟨_, rfl, congrArg Value.bool (by unfold scriptB; rw [decide_eq_true (show L.length ≤ 16 by omega)]; rfl), (hS.sub [] (by decide) (by first | rfl | simp) (by simp))⟩
 ·first | (replace hc159 := of_decide_eq_false hc159) | (replace hc159 := of_decide_eq_true (bnot_f hc159)) | (subst hc159) | (replace hc159 := bnot_f hc159; subst hc159) | (replace hc159 := bnot_f hc159) | skip
  refine skF hF rfl rfl rfl rfl rfl rfl ?_; clear hF; intro a hF
  refine skF hF rfl rfl rfl rfl rfl rfl ?_; clear hF; intro a hF
  refine skF hF rfl rfl rfl rfl rfl rfl ?_; clear hF; intro a hF
  refine seq_yl hF (wn_none rfl) rfl rfl (pkF hF rfl rfl rfl) ?_; clear hF; intro a hF
  refine asN hF rfl rfl rfl rfl rfl ?_; clear hF; intro a hF
  refine wpList_nil ?_
  refine then_n ?_
  refine wp_ret ?_
  refine ret_t hF rfl rfl ?_
  exact ⟨_, rfl, congrArg Value.bool (script_no (by omega)), (hS.sub [] (by decide) (by first | rfl | simp) (by simp))⟩

set_option maxRecDepth 100000 in
theorem script2_any (v : Value) (L : List E37) (w0 : World) (hv : Rd w0 9 v (L).length (cells enc37 (L))) (hL : L.length ≤ 1000000) :
  Fn Try.prog 35 #[v] w0 (fun v w' => v = .bool (scriptB L) ∧ Sat w0 w' []) := by
 obtain ⟨Av, cv, rfl⟩ := Rd.form hv
 refine c_enter (N := 19) (l := [_]) Try.func35 rfl rfl (fun a w hF hS => ?_)
 replace hS := hS.addRo hv
 refine c_seq ?_
 refine c_region ?_
 refine asN hF rfl rfl rfl rfl rfl ?_; clear hF; intro a hF
 refine wpList_nil ?_
 refine then_n ?_
 refine c_seq ?_
 refine c_seq ?_
 refine c_region ?_
 refine asN hF rfl rfl rfl rfl rfl ?_; clear hF; intro a hF
 refine wpList_nil ?_
 refine then_n ?_
 refine wp_block ?_
 refine c_loop (fun m a w => ∃ (k : Nat), m = L.length - k ∧ (k ≤ L.length ∧ ∀ r ∈ L.take k, validR r) ∧ Fr 19 a [(0, .slice Av (L).length cv), (3, .int .i64 ((k : Nat) : Int))] ∧ Sat w0 w (.ro 9 (.slice Av (L).length cv) (L).length (cells enc37 (L)) :: [])) (L.length - 0) ?_ ?_
 ·exact ⟨0, rfl, ⟨Nat.zero_le _, by simp⟩, hF.to [0, 3] rfl, (hS.sub [0] (by decide) (by first | rfl | simp) (by simp))⟩
 ·clear hF hS; try clear hSS
  clear a w; rintro m a w ⟨k, rfl, hinv, hF, hS⟩
  have hk := hinv.1
  refine c_seq ?_
  refine c_seq ?_
  refine c_region ?_
  refine mvN hF rfl rfl rfl rfl rfl ?_; clear hF; intro a hF
  refine mvN hF rfl rfl rfl rfl rfl ?_; clear hF; intro a hF
  refine seq_yl hF (wn_none rfl) rfl rfl (yl_len hF rfl rfl (fun _ => run_lenRd sl23 (hS.rdRo 0 rfl))) ?_; clear hF; intro a hF
  refine seq_yl hF (wn_none rfl) rfl rfl (yl_bin hF rfl rfl rfl rfl (fun _ => run_lss)) ?_; clear hF; intro a hF
  refine wpList_nil ?_
  refine then_n ?_
  refine c_cond hF rfl (fun hc160 => ?_) (fun hc160 => ?_)
  ·first | (replace hc160 := of_decide_eq_true hc160) | (replace hc160 := of_decide_eq_false (bnot_t hc160)) | (subst hc160) | (replace hc160 := bnot_t hc160; subst hc160) | (replace hc160 := bnot_t hc160) | skip
   refine wp_skip ?_
   refine then_n ?_
   refine c_seq ?_
   refine wp_block ?_
   refine c_seq ?_
   refine c_region ?_
   refine mvN hF rfl rfl rfl rfl rfl ?_; clear hF; intro a hF
   refine mvN hF rfl rfl rfl rfl rfl ?_; clear hF; intro a hF
   have hlt_hx161 : k < (L).length := by first | omega | (simp; done) | (simp; omega)
   obtain ⟨ad162, rfl⟩ := rd_some (hS.rdRo 0 rfl) hlt_hx161
   obtain ⟨x161, hx161⟩ := get_some hlt_hx161
   refine seq_yl hF (wn_none rfl) rfl rfl (yl_indexAddr hF rfl rfl rfl (fun _ => run_idx' sl23 sz37 (hS.rdRo 0 rfl) hlt_hx161)) ?_; clear hF; intro a hF
   refine seq_yl hF (wn_none rfl) rfl rfl (yl_loadEl (rs := [.int .i64 (x161.f0), .int .i64 (x161.f1), .int .i64 (x161.f2), .int .i64 (x161.f3), .int .i64 (x161.f4), .int .i64 (x161.f5), .int .i64 (x161.f6), .bool x161.f7, .int .i64 (x161.f8)]) hF rfl rfl ag37 sz37 rfl (fun _ h => rd_cells (enc := enc37) (by subst h; exact hS.rdRo 0 rfl) enc37_len hx161)) ?_; clear hF; intro a hF
   refine seq_wp (wn_none rfl) (wp_call (vs := [_]) hF rfl rfl rfl rfl cf24 (valid2_any x161 _) ?_)
   clear hF; rintro _ w ⟨rfl, hS1⟩ a hF
   replace hS := hS.callB hS1 rfl; clear hS1
   refine seq_yl hF (wn_none rfl) rfl rfl (yl_un hF rfl rfl (fun _ => run_not)) ?_; clear hF; intro a hF
   refine wpList_nil ?_
   refine then_n ?_
   refine c_cond hF rfl (fun hc163 => ?_) (fun hc163 => ?_)
   ·first | (replace hc163 := of_decide_eq_true hc163) | (replace hc163 := of_decide_eq_false (bnot_t hc163)) | (subst hc163) | (replace hc163 := bnot_t hc163; subst hc163) | (replace hc163 := bnot_t hc163) | skip
    refine c_seq ?_
    refine c_region ?_
    refine asN hF rfl rfl rfl rfl rfl ?_; clear hF; intro a hF
    refine wpList_nil ?_
    refine then_n ?_
    refine wp_ret ?_
    refine inb_r ?_
    refine then_r ?_
    refine then_r ?_
    refine inb_r ?_
    refine then_r ?_
    refine ret_t hF rfl rfl ?_
    exact ⟨_, rfl, congrArg Value.bool (script_ex hx161 (by assumption)), (hS.sub [] (by decide) (by first | rfl | simp) (by simp))⟩
   ·first | (replace hc163 := of_decide_eq_false hc163) | (replace hc163 := of_decide_eq_true (bnot_f hc163)) | (subst hc163) | (replace hc163 := bnot_f hc163; subst hc163) | (replace hc163 := bnot_f hc163) | skip
    refine wp_skip ?_
    refine inb_n ?_
    refine then_n ?_
    refine c_region ?_
    refine mvN hF rfl rfl rfl rfl rfl ?_; clear hF; intro a hF
    refine seq_yl hF (wn_none rfl) rfl rfl (yl_bin hF rfl rfl rfl rfl (fun _ => run_inc (by omega))) ?_; clear hF; intro a hF
    refine asN hF rfl rfl rfl rfl rfl ?_; clear hF; intro a hF
    refine wpList_nil ?_
    refine then_n ?_
    exact ⟨_, (by omega), k + 1, rfl, ⟨by omega, all_take hinv.2 hx161 (by assumption)⟩, hF.to [0, 3] rfl, (hS.sub [0] (by decide) (by first | rfl | simp) (by simp))⟩
  ·first | (replace hc160 := of_decide_eq_false hc160) | (replace hc160 := of_decide_eq_true (bnot_f hc160)) | (subst hc160) | (replace hc160 := bnot_f hc160; subst hc160) | (replace hc160 := bnot_f hc160) | skip
   refine wp_exit ?_
   refine then_x ?_
   refine then_x ?_
   refine inb_x ?_
   refine then_n ?_
   refine c_seq ?_
   refine c_region ?_
   refine mvN hF rfl rfl rfl rfl rfl ?_; clear hF; intro a hF
   refine seq_yl hF (wn_none rfl) rfl rfl (yl_len hF rfl rfl (fun _ => run_lenRd sl23 (hS.rdRo 0 rfl))) ?_; clear hF; intro a hF
   refine seq_yl hF (wn_none rfl) rfl rfl (yl_bin hF rfl rfl rfl rfl (fun _ => run_leq)) ?_; clear hF; intro a hF
   refine asN hF rfl rfl rfl rfl rfl ?_; clear hF; intro a hF
   refine wpList_nil ?_
   refine then_n ?_
   refine wp_ret ?_
   refine ret_t hF rfl rfl ?_
   exact ⟨_, rfl, congrArg Value.bool (script_all hinv.2 (by omega)), (hS.sub [] (by decide) (by first | rfl | simp) (by simp))⟩

set_option maxRecDepth 100000 in
theorem quiet_any (v : Value) (L : List E37) (w0 : World) (hv : Rd w0 9 v (L).length (cells enc37 (L))) (hL : L.length ≤ 1000000) :
  Fn Try.prog 16 #[v] w0 (fun v w' => v = .bool (quietB L) ∧ Sat w0 w' []) := by
 obtain ⟨Av, cv, rfl⟩ := Rd.form hv
 refine c_enter (N := 6) (l := [_]) Try.func16 rfl rfl (fun a w hF hS => ?_)
 replace hS := hS.addRo hv
 refine c_seq ?_
 refine c_region ?_
 refine asN hF rfl rfl rfl rfl rfl ?_; clear hF; intro a hF
 refine wpList_nil ?_
 refine then_n ?_
 refine c_seq ?_
 refine c_region ?_
 refine mvN hF rfl rfl rfl rfl rfl ?_; clear hF; intro a hF
 refine seq_wp (wn_none rfl) (wp_call (vs := [_, _]) hF rfl rfl rfl rfl cf36 (containsR_any (k := 37) (caps := []) (p := (fun x : E37 => decide (x.f4 ≠ 0))) _ _ _ L cf37 (fun x w h => clQuiet _ _ _ x h) (fun w h => Sat.rdRo h 0 rfl) hS (by first | omega | (simp; done) | (simp; omega))) ?_)
 clear hF hS; rintro _ w ⟨rfl, hS⟩ a hF
 refine seq_yl hF (wn_none rfl) rfl rfl (yl_un hF rfl rfl (fun _ => run_not)) ?_; clear hF; intro a hF
 refine asN hF rfl rfl rfl rfl rfl ?_; clear hF; intro a hF
 refine wpList_nil ?_
 refine then_n ?_
 refine wp_ret ?_
 refine ret_t hF rfl rfl ?_
 exact ⟨_, rfl, rfl, (hS.sub [] (by decide) (by first | rfl | simp) (by simp))⟩

set_option maxRecDepth 100000 in
theorem quiet2_any (v : Value) (L : List E37) (w0 : World) (hv : Rd w0 9 v (L).length (cells enc37 (L))) (hL : L.length ≤ 1000000) :
  Fn Try.prog 17 #[v] w0 (fun v w' => v = .bool (quietB L) ∧ Sat w0 w' []) := by
 obtain ⟨Av, cv, rfl⟩ := Rd.form hv
 refine c_enter (N := 16) (l := [_]) Try.func17 rfl rfl (fun a w hF hS => ?_)
 replace hS := hS.addRo hv
 refine c_seq ?_
 refine c_region ?_
 refine asN hF rfl rfl rfl rfl rfl ?_; clear hF; intro a hF
 refine wpList_nil ?_
 refine then_n ?_
 refine c_seq ?_
 refine c_seq ?_
 refine c_region ?_
 refine asN hF rfl rfl rfl rfl rfl ?_; clear hF; intro a hF
 refine wpList_nil ?_
 refine then_n ?_
 refine wp_block ?_
 refine c_loop (fun m a w => ∃ (k : Nat), m = L.length - k ∧ (k ≤ L.length ∧ ∀ r ∈ L.take k, decide (r.f4 ≠ 0) = false) ∧ Fr 16 a [(0, .slice Av (L).length cv), (3, .int .i64 ((k : Nat) : Int))] ∧ Sat w0 w (.ro 9 (.slice Av (L).length cv) (L).length (cells enc37 (L)) :: [])) (L.length - 0) ?_ ?_
 ·exact ⟨0, rfl, ⟨Nat.zero_le _, by simp⟩, hF.to [0, 3] rfl, (hS.sub [0] (by decide) (by first | rfl | simp) (by simp))⟩
 ·clear hF hS; try clear hSS
  clear a w; rintro m a w ⟨k, rfl, hinv, hF, hS⟩
  have hk := hinv.1
  refine c_seq ?_
  refine c_seq ?_
  refine c_region ?_
  refine mvN hF rfl rfl rfl rfl rfl ?_; clear hF; intro a hF
  refine mvN hF rfl rfl rfl rfl rfl ?_; clear hF; intro a hF
  refine seq_yl hF (wn_none rfl) rfl rfl (yl_len hF rfl rfl (fun _ => run_lenRd sl23 (hS.rdRo 0 rfl))) ?_; clear hF; intro a hF
  refine seq_yl hF (wn_none rfl) rfl rfl (yl_bin hF rfl rfl rfl rfl (fun _ => run_lss)) ?_; clear hF; intro a hF
  refine wpList_nil ?_
  refine then_n ?_
  refine c_cond hF rfl (fun hc164 => ?_) (fun hc164 => ?_)
  ·first | (replace hc164 := of_decide_eq_true hc164) | (replace hc164 := of_decide_eq_false (bnot_t hc164)) | (subst hc164) | (replace hc164 := bnot_t hc164; subst hc164) | (replace hc164 := bnot_t hc164) | skip
   refine wp_skip ?_
   refine then_n ?_
   refine c_seq ?_
   refine wp_block ?_
   refine c_seq ?_
   refine c_region ?_
   refine mvN hF rfl rfl rfl rfl rfl ?_; clear hF; intro a hF
   refine mvN hF rfl rfl rfl rfl rfl ?_; clear hF; intro a hF
   have hlt_hx165 : k < (L).length := by first | omega | (simp; done) | (simp; omega)
   obtain ⟨ad166, rfl⟩ := rd_some (hS.rdRo 0 rfl) hlt_hx165
   obtain ⟨x165, hx165⟩ := get_some hlt_hx165
   refine seq_yl hF (wn_none rfl) rfl rfl (yl_indexAddr hF rfl rfl rfl (fun _ => run_idx' sl23 sz37 (hS.rdRo 0 rfl) hlt_hx165)) ?_; clear hF; intro a hF
   refine seq_yl hF (wn_none rfl) rfl rfl (yl_fieldAddr hF rfl rfl (fun w => run_fa fo37_4)) ?_; clear hF; intro a hF
   refine seq_yl hF (wn_none rfl) rfl rfl (yl_loadAt hF rfl rfl ag3 (fun _ h => rd_cell (j := 4) (enc := enc37) (by subst h; exact hS.rdRo 0 rfl) enc37_len hx165 rfl rfl)) ?_; clear hF; intro a hF
   refine seq_yl hF (wn_none rfl) rfl rfl (yl_bin hF rfl rfl rfl rfl (fun _ => run_neq)) ?_; clear hF; intro a hF
   refine wpList_nil ?_
   refine then_n ?_
   refine c_cond hF rfl (fun hc167 => ?_) (fun hc167 => ?_)
   ·first | (replace hc167 := of_decide_eq_true hc167) | (replace hc167 := of_decide_eq_false (bnot_t hc167)) | (subst hc167) | (replace hc167 := bnot_t hc167; subst hc167) | (replace hc167 := bnot_t hc167) | skip
    refine c_seq ?_
    refine c_region ?_
    refine asN hF rfl rfl rfl rfl rfl ?_; clear hF; intro a hF
    refine wpList_nil ?_
    refine then_n ?_
    refine wp_ret ?_
    refine inb_r ?_
    refine then_r ?_
    refine then_r ?_
    refine inb_r ?_
    refine then_r ?_
    refine ret_t hF rfl rfl ?_
    exact ⟨_, rfl, congrArg Value.bool (by unfold quietB; rw [← any_hit hx165 (decide_eq_true (by assumption))]; rfl), (hS.sub [] (by decide) (by first | rfl | simp) (by simp))⟩
   ·first | (replace hc167 := of_decide_eq_false hc167) | (replace hc167 := of_decide_eq_true (bnot_f hc167)) | (subst hc167) | (replace hc167 := bnot_f hc167; subst hc167) | (replace hc167 := bnot_f hc167) | skip
    refine wp_skip ?_
    refine inb_n ?_
    refine then_n ?_
    refine c_region ?_
    refine mvN hF rfl rfl rfl rfl rfl ?_; clear hF; intro a hF
    refine seq_yl hF (wn_none rfl) rfl rfl (yl_bin hF rfl rfl rfl rfl (fun _ => run_inc (by omega))) ?_; clear hF; intro a hF
    refine asN hF rfl rfl rfl rfl rfl ?_; clear hF; intro a hF
    refine wpList_nil ?_
    refine then_n ?_
    exact ⟨_, (by omega), k + 1, rfl, ⟨by omega, all_take hinv.2 hx165 (decide_eq_false (by assumption))⟩, hF.to [0, 3] rfl, (hS.sub [0] (by decide) (by first | rfl | simp) (by simp))⟩
  ·first | (replace hc164 := of_decide_eq_false hc164) | (replace hc164 := of_decide_eq_true (bnot_f hc164)) | (subst hc164) | (replace hc164 := bnot_f hc164; subst hc164) | (replace hc164 := bnot_f hc164) | skip
   refine wp_exit ?_
   refine then_x ?_
   refine then_x ?_
   refine inb_x ?_
   refine then_n ?_
   refine c_seq ?_
   refine c_region ?_
   refine asN hF rfl rfl rfl rfl rfl ?_; clear hF; intro a hF
   refine wpList_nil ?_
   refine then_n ?_
   refine wp_ret ?_
   refine ret_t hF rfl rfl ?_
   exact ⟨_, rfl, congrArg Value.bool (by unfold quietB; rw [← any_none (k := k) (fun r hr => hinv.2 r hr) (by omega)]; rfl), (hS.sub [] (by decide) (by first | rfl | simp) (by simp))⟩

set_option maxRecDepth 100000 in
theorem sameR_any (v u : Value) (L M : List E37) (w0 : World) (hv : Rd w0 9 v (L).length (cells enc37 (L))) (hu : Rd w0 9 u (M).length (cells enc37 (M))) (hL : L.length ≤ 1000000) :
  Fn Try.prog 15 #[v, u] w0 (fun v w' => v = .bool (decide (L = M)) ∧ Sat w0 w' []) := by
 obtain ⟨Av, cv, rfl⟩ := Rd.form hv
 obtain ⟨Au, cu, rfl⟩ := Rd.form hu
 refine c_enter (N := 26) (l := [_, _]) Try.func15 rfl rfl (fun a w hF hS => ?_)
 replace hS := hS.addRo hu
 replace hS := hS.addRo hv
 refine c_seq ?_
 refine c_region ?_
 refine asN hF rfl rfl rfl rfl rfl ?_; clear hF; intro a hF
 refine wpList_nil ?_
 refine then_n ?_
 refine c_seq ?_
 refine c_seq ?_
 refine c_region ?_
 refine mvN hF rfl rfl rfl rfl rfl ?_; clear hF; intro a hF
 refine seq_yl hF (wn_none rfl) rfl rfl (yl_len hF rfl rfl (fun _ => run_lenRd sl23 (hS.rdRo 0 rfl))) ?_; clear hF; intro a hF
 refine mvN hF rfl rfl rfl rfl rfl ?_; clear hF; intro a hF
 refine seq_yl hF (wn_none rfl) rfl rfl (yl_len hF rfl rfl (fun _ => run_lenRd sl23 (hS.rdRo 1 rfl))) ?_; clear hF; intro a hF
 refine seq_yl hF (wn_none rfl) rfl rfl (yl_bin hF rfl rfl rfl rfl (fun _ => run_neq)) ?_; clear hF; intro a hF
 refine wpList_nil ?_
 refine then_n ?_
 refine c_cond hF rfl (fun hc168 => ?_) (fun hc168 => ?_)
 ·first | (replace hc168 := of_decide_eq_true hc168) | (replace hc168 := of_decide_eq_false (bnot_t hc168)) | (subst hc168) | (replace hc168 := bnot_t hc168; subst hc168) | (replace hc168 := bnot_t hc168) | skip
  refine c_seq ?_
  refine c_region ?_
  refine asN hF rfl rfl rfl rfl rfl ?_; clear hF; intro a hF
  refine wpList_nil ?_
  refine then_n ?_
  refine wp_ret ?_
  refine then_r ?_
  refine ret_t hF rfl rfl ?_
  exact ⟨_, rfl, congrArg Value.bool (dec_f (by rintro rfl; omega)), (hS.sub [] (by decide) (by first | rfl | simp) (by simp))⟩
 ·first | (replace hc168 := of_decide_eq_false hc168) | (replace hc168 := of_decide_eq_true (bnot_f hc168)) | (subst hc168) | (replace hc168 := bnot_f hc168; subst hc168) | (replace hc168 := bnot_f hc168) | skip
  refine wp_skip ?_
  refine then_n ?_
  refine c_seq ?_
  refine c_seq ?_
  refine c_region ?_
  refine asN hF rfl rfl rfl rfl rfl ?_; clear hF; intro a hF
  refine wpList_nil ?_
  refine then_n ?_
  refine wp_block ?_
  refine c_loop (fun m a w => ∃ (k : Nat), m = L.length - k ∧ (k ≤ L.length ∧ L.take k = M.take k) ∧ Fr 26 a [(0, .slice Av (L).length cv), (1, .slice Au (M).length cu), (5, .int .i64 ((k : Nat) : Int))] ∧ Sat w0 w (.ro 9 (.slice Av (L).length cv) (L).length (cells enc37 (L)) :: .ro 9 (.slice Au (M).length cu) (M).length (cells enc37 (M)) :: [])) (L.length - 0) ?_ ?_
  ·exact ⟨0, rfl, ⟨Nat.zero_le _, by simp⟩, hF.to [0, 1, 5] rfl, (hS.sub [0, 1] (by decide) (by first | rfl | simp) (by simp))⟩
  ·clear hF hS; try clear hSS
   clear a w; rintro m a w ⟨k, rfl, hinv, hF, hS⟩
   have hk := hinv.1
   refine c_seq ?_
   refine c_seq ?_
   refine c_region ?_
   refine mvN hF rfl rfl rfl rfl rfl ?_; clear hF; intro a hF
   refine mvN hF rfl rfl rfl rfl rfl ?_; clear hF; intro a hF
   refine seq_yl hF (wn_none rfl) rfl rfl (yl_len hF rfl rfl (fun _ => run_lenRd sl23 (hS.rdRo 0 rfl))) ?_; clear hF; intro a hF
   refine seq_yl hF (wn_none rfl) rfl rfl (yl_bin hF rfl rfl rfl rfl (fun _ => run_lss)) ?_; clear hF; intro a hF
   refine wpList_nil ?_
   refine then_n ?_
   refine c_cond hF rfl (fun hc169 => ?_) (fun hc169 => ?_)
   ·first | (replace hc169 := of_decide_eq_true hc169) | (replace hc169 := of_decide_eq_false (bnot_t hc169)) | (subst hc169) | (replace hc169 := bnot_t hc169; subst hc169) | (replace hc169 := bnot_t hc169) | skip
    refine wp_skip ?_
    refine then_n ?_
    refine c_seq ?_
    refine wp_block ?_
    refine c_seq ?_
    refine ha_startS hS [0, 1] 9 (by kernel_rfl) ?_; clear hS; intro w hS
    have hSS := hS.sub [0, 1] (by decide) rfl (by simp)
    refine ha_y 0 hF rfl rfl rfl (wn_none rfl) (.inr hSS) (yl_move hF rfl rfl) ?_; clear hF; intro a hF
    refine ha_y 1 hF rfl rfl rfl (wn_none rfl) (.inr hSS) (yl_move hF rfl rfl) ?_; clear hF; intro a hF
    have hlt_hx170 : k < (L).length := by first | omega | (simp; done) | (simp; omega)
    obtain ⟨ad171, rfl⟩ := rd_some (hS.rdRo 0 rfl) hlt_hx170
    obtain ⟨x170, hx170⟩ := get_some hlt_hx170
    refine ha_y 2 hF rfl rfl rfl (wn_none rfl) (.inr hSS) (yl_indexAddr hF rfl rfl rfl (fun _ => run_idx' sl23 sz37 (hS.rdRo 0 rfl) hlt_hx170)) ?_; clear hF; intro a hF
    refine ha_y 4 hF rfl rfl rfl (wn_none rfl) (.inr hSS) (yl_move hF rfl rfl) ?_; clear hF; intro a hF
    refine ha_y 5 hF rfl rfl rfl (wn_none rfl) (.inr hSS) (yl_move hF rfl rfl) ?_; clear hF; intro a hF
    have hlt_hx172 : k < (M).length := by first | omega | (simp; done) | (simp; omega)
    obtain ⟨ad173, rfl⟩ := rd_some (hS.rdRo 1 rfl) hlt_hx172
    obtain ⟨x172, hx172⟩ := get_some hlt_hx172
    refine ha_y 6 hF rfl rfl rfl (wn_none rfl) (.inr hSS) (yl_indexAddr hF rfl rfl rfl (fun _ => run_idx' sl23 sz37 (hS.rdRo 1 rfl) hlt_hx172)) ?_; clear hF; intro a hF
    refine ha_l 3 hF rfl rfl rfl (wn_none rfl) hSS (yl_loadEl (rs := [.int .i64 (x170.f0), .int .i64 (x170.f1), .int .i64 (x170.f2), .int .i64 (x170.f3), .int .i64 (x170.f4), .int .i64 (x170.f5), .int .i64 (x170.f6), .bool x170.f7, .int .i64 (x170.f8)]) hF rfl rfl ag37 sz37 rfl (fun _ h => rd_cells (enc := enc37) (Sat.rdRo h 0 rfl) enc37_len hx170)) ?_; clear hF; intro a hF
    refine ha_l 7 hF rfl rfl rfl (wn_none rfl) hSS (yl_loadEl (rs := [.int .i64 (x172.f0), .int .i64 (x172.f1), .int .i64 (x172.f2), .int .i64 (x172.f3), .int .i64 (x172.f4), .int .i64 (x172.f5), .int .i64 (x172.f6), .bool x172.f7, .int .i64 (x172.f8)]) hF rfl rfl ag37 sz37 rfl (fun _ h => rd_cells (enc := enc37) (Sat.rdRo h 1 rfl) enc37_len hx172)) ?_; clear hF; intro a hF
    refine ha_y 8 hF rfl rfl rfl (wn_none rfl) (.inr hSS) (yl_binA hF rfl rfl rfl (fun w => run_eqGuard_agg w _ _ _ _ _ _ hm37) (fun w => nes37 _ _ _ _ _ _ _ _ _ _ _ _ _ _ _ _ _ _ w)) ?_; clear hF; intro a hF
    refine ha_done (by kernel_rfl) ?_ _
    refine then_n ?_
    refine c_cond hF rfl (fun hc174 => ?_) (fun hc174 => ?_)
    ·first | (replace hc174 := of_decide_eq_true hc174) | (replace hc174 := of_decide_eq_false (bnot_t hc174)) | (subst hc174) | (replace hc174 := bnot_t hc174; subst hc174) | (replace hc174 := bnot_t hc174) | skip
     refine c_seq ?_
     refine c_region ?_
     refine asN hF rfl rfl rfl rfl rfl ?_; clear hF; intro a hF
     refine wpList_nil ?_
     refine then_n ?_
     refine wp_ret ?_
     refine inb_r ?_
     refine then_r ?_
     refine then_r ?_
     refine inb_r ?_
     refine then_r ?_
     refine ret_t hF rfl rfl ?_
     exact ⟨_, rfl, congrArg Value.bool (dec_f (by rintro rfl; have h9 := hx172; rw [hx170] at h9; injection h9 with h9; subst h9; rename (¬ (_ ∧ _)) => hne; simp at hne)), (hS.sub [] (by decide) (by first | rfl | simp) (by simp))⟩
    ·first | (replace hc174 := of_decide_eq_false hc174) | (replace hc174 := of_decide_eq_true (bnot_f hc174)) | (subst hc174) | (replace hc174 := bnot_f hc174; subst hc174) | (replace hc174 := bnot_f hc174) | skip
     refine wp_skip ?_
     refine inb_n ?_
     refine then_n ?_
     refine c_region ?_
     refine mvN hF rfl rfl rfl rfl rfl ?_; clear hF; intro a hF
     refine seq_yl hF (wn_none rfl) rfl rfl (yl_bin hF rfl rfl rfl rfl (fun _ => run_inc (by omega))) ?_; clear hF; intro a hF
     refine asN hF rfl rfl rfl rfl rfl ?_; clear hF; intro a hF
     refine wpList_nil ?_
     refine then_n ?_
     exact ⟨_, (by omega), k + 1, rfl, ⟨by omega, take_eq_step hx170 hx172 (E37_ext (Decidable.not_not.1 (by assumption))) hinv.2⟩, hF.to [0, 1, 5] rfl, (hS.sub [0, 1] (by decide) (by first | rfl | simp) (by simp))⟩
   ·first | (replace hc169 := of_decide_eq_false hc169) | (replace hc169 := of_decide_eq_true (bnot_f hc169)) | (subst hc169) | (replace hc169 := bnot_f hc169; subst hc169) | (replace hc169 := bnot_f hc169) | skip
    refine wp_exit ?_
    refine then_x ?_
    refine then_x ?_
    refine inb_x ?_
    refine then_n ?_
    refine c_seq ?_
    refine c_region ?_
    refine asN hF rfl rfl rfl rfl rfl ?_; clear hF; intro a hF
    refine wpList_nil ?_
    refine then_n ?_
    refine wp_ret ?_
    refine ret_t hF rfl rfl ?_
    exact ⟨_, rfl, congrArg Value.bool (dec_t (by have h9 := hinv.2; rwa [List.take_of_length_le (by omega), List.take_of_length_le (by omega)] at h9)), (hS.sub [] (by decide) (by first | rfl | simp) (by simp))⟩

end Go.Proofs.Ytkejcnhfbfgphaa

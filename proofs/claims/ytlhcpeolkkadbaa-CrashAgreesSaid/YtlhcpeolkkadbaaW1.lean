/- walks, printed by wip/gen -/
import Derived.Test.YtlhcpeolkkadbaaW0
namespace Go.Proofs.Ytlhcpeolkkadbaa
open Go.RowKit
set_option linter.unusedVariables false
set_option linter.unusedSimpArgs false

set_option maxRecDepth 100000 in
theorem indexP_any {k : FuncId} {caps : List Value} {p : E59 → Bool} {H : List Chunk} (w0 w : World) (v : Value) (L : List E59) (hcf : ∀ (args : Array Value) (w : World), (callFunc k args).run Try.prog w = .ok (.enter k args) w) (hp : PredOn Try.prog w0 H k caps (fun x : E59 => .agg #[.int .i64 x.f0, .string x.f1]) p) (hr : ∀ w, Sat w0 w H → Rd w 2 v (L).length (cells enc59 (L))) (hS : Sat w0 w H) (hL : L.length ≤ 1000000) :
    Fn Try.prog 61 #[v, .func (.func k) #[] caps.toArray] w (fun v w' => v = .int .i64 (idxF p L) ∧ Sat w0 w' H) := by
  obtain ⟨Av, cv, rfl⟩ := (hr _ hS).form
  refine c_enterS (N := 19) (l := [_, _]) Try.func61 rfl rfl (fun a hF => ?_)
  refine c_seq ?_
  refine c_region ?_
  refine seq_yl hF (wn_none rfl) rfl rfl (yl_assign hF rfl rfl) ?_
  clear hF; intro a hF
  refine wpList_nil ?_
  refine then_n ?_
  refine c_seq ?_
  refine c_seq ?_
  refine c_region ?_
  refine seq_yl hF (wn_none rfl) rfl rfl (yl_move hF rfl rfl) ?_
  clear hF; intro a hF
  refine seq_yl hF (wn_none rfl) rfl rfl (yl_len hF rfl rfl (fun _ => run_lenRd sl22 (hr _ hS))) ?_
  clear hF; intro a hF
  refine seq_yl hF (wn_none rfl) rfl rfl (yl_move hF rfl rfl) ?_
  clear hF; intro a hF
  refine wpList_nil ?_
  refine then_n ?_
  refine wp_block ?_
  refine c_loop (fun m a w => ∃ (k0 : Nat), m = L.length - k0 ∧ (k0 ≤ L.length ∧ ∀ x ∈ L.take k0, p x = false) ∧ Fr 19 a [(0, .slice Av L.length cv), (1, .func (.func k) #[] caps.toArray), (7, .int .i64 (((L).length : Nat) : Int)), (8, .int .i64 ((k0 : Nat) : Int))] ∧ Sat w0 w (H)) (L.length - 0) ?_ ?_
  · exact ⟨0, rfl, ⟨Nat.zero_le _, by simp⟩, hF.to [0, 1, 7, 8] rfl, (hS.subT 0 [] (by decide) (by first | rfl | simp) (by simp) (by simp))⟩
  · clear hF hS; try clear hSS
    clear a w; rintro m a w ⟨k0, rfl, hinv, hF, hS⟩
    have hk := hinv.1
    refine c_seq ?_
    refine c_region ?_
    refine seq_yl hF (wn_none rfl) rfl rfl (yl_bin hF rfl rfl rfl rfl (fun _ => run_lss)) ?_
    clear hF; intro a hF
    refine wpList_nil ?_
    refine then_n ?_
    refine c_seq ?_
    refine c_cond hF rfl (fun hc37 => ?_) (fun hc37 => ?_)
    · first | (replace hc37 := of_decide_eq_true hc37) | (replace hc37 := of_decide_eq_false (bnot_t hc37)) | (subst hc37) | (replace hc37 := bnot_t hc37; subst hc37) | (replace hc37 := bnot_t hc37) | skip
      try (have hc37x := hc37; simp only [okS, okI, okW, okP] at hc37x)
      refine wp_skip ?_
      refine then_n ?_
      refine c_seq ?_
      refine wp_block ?_
      refine c_seq ?_
      refine c_region ?_
      refine seq_yl hF (wn_none rfl) rfl rfl (yl_move hF rfl rfl) ?_
      clear hF; intro a hF
      refine seq_yl hF (wn_none rfl) rfl rfl (yl_assign hF rfl rfl) ?_
      clear hF; intro a hF
      refine wpList_nil ?_
      refine then_n ?_
      refine c_seq ?_
      refine c_region ?_
      refine seq_yl hF (wn_none rfl) rfl rfl (yl_move hF rfl rfl) ?_
      clear hF; intro a hF
      refine seq_yl hF (wn_none rfl) rfl rfl (yl_move hF rfl rfl) ?_
      clear hF; intro a hF
      refine seq_yl hF (wn_none rfl) rfl rfl (yl_move hF rfl rfl) ?_
      clear hF; intro a hF
      have hlt_hx38 : k0 < (L).length := by first | omega | (simp; done) | (simp; omega)
      obtain ⟨ad39, rfl⟩ := rd_some (hr _ hS) hlt_hx38
      obtain ⟨x38, hx38⟩ := get_some hlt_hx38
      refine seq_yl hF (wn_none rfl) rfl rfl (yl_indexAddr hF rfl rfl rfl (fun _ => run_idx' sl22 sz59 (hr _ hS) hlt_hx38)) ?_
      clear hF; intro a hF
      refine seq_yl hF (wn_none rfl) rfl rfl (yl_loadEl (rs := [.int .i64 (x38.f0), .string x38.f1]) hF rfl rfl ag59 sz59 rfl (fun _ h => rd_cells (enc := enc59) (by subst h; exact hr _ hS) enc59_len hx38)) ?_
      clear hF; intro a hF
      refine seq_wp (wn_none rfl) (wp_callC (f := k) (vs := [_]) (caps := caps) hF rfl rfl rfl rfl rfl hcf (hp x38 _ hS) ?_)
      clear hF hS; rintro _ w ⟨rfl, hS⟩ a hF
      refine wpList_nil ?_
      refine then_n ?_
      refine c_cond hF rfl (fun hc40 => ?_) (fun hc40 => ?_)
      · first | (replace hc40 := of_decide_eq_true hc40) | (replace hc40 := of_decide_eq_false (bnot_t hc40)) | (subst hc40) | (replace hc40 := bnot_t hc40; subst hc40) | (replace hc40 := bnot_t hc40) | skip
        try (have hc40x := hc40; simp only [okS, okI, okW, okP] at hc40x)
        refine c_seq ?_
        refine c_region ?_
        refine seq_yl hF (wn_none rfl) rfl rfl (yl_move hF rfl rfl) ?_
        clear hF; intro a hF
        refine seq_yl hF (wn_none rfl) rfl rfl (yl_assign hF rfl rfl) ?_
        clear hF; intro a hF
        refine wpList_nil ?_
        refine then_n ?_
        refine wp_ret ?_
        refine inb_r ?_
        refine then_r ?_
        refine then_r ?_
        refine inb_r ?_
        refine then_r ?_
        refine ret_t hF rfl rfl ?_
        exact ⟨_, rfl, congrArg (Value.int .i64) (idx_hit hx38 (by assumption) hinv.2), hS⟩
      · first | (replace hc40 := of_decide_eq_false hc40) | (replace hc40 := of_decide_eq_true (bnot_f hc40)) | (subst hc40) | (replace hc40 := bnot_f hc40; subst hc40) | (replace hc40 := bnot_f hc40) | skip
        try (have hc40x := hc40; simp only [okS, okI, okW, okP] at hc40x)
        refine wp_skip ?_
        refine inb_n ?_
        refine then_n ?_
        refine c_region ?_
        refine seq_yl hF (wn_none rfl) rfl rfl (yl_bin hF rfl rfl rfl rfl (fun _ => run_inc (by omega))) ?_
        clear hF; intro a hF
        refine seq_yl hF (wn_none rfl) rfl rfl (yl_move hF rfl rfl) ?_
        clear hF; intro a hF
        refine wpList_nil ?_
        refine then_n ?_
        exact ⟨_, (by omega), k0 + 1, rfl, ⟨by omega, all_not_step hx38 (by assumption) hinv.2⟩, hF.to [0, 1, 7, 8] rfl, (hS.subT 0 [] (by decide) (by first | rfl | simp) (by simp) (by simp))⟩
    · first | (replace hc37 := of_decide_eq_false hc37) | (replace hc37 := of_decide_eq_true (bnot_f hc37)) | (subst hc37) | (replace hc37 := bnot_f hc37; subst hc37) | (replace hc37 := bnot_f hc37) | skip
      try (have hc37x := hc37; simp only [okS, okI, okW, okP] at hc37x)
      refine wp_exit ?_
      refine then_x ?_
      refine then_x ?_
      refine inb_x ?_
      refine then_n ?_
      refine c_seq ?_
      refine c_region ?_
      refine seq_yl hF (wn_none rfl) rfl rfl (yl_assign hF rfl rfl) ?_
      clear hF; intro a hF
      refine wpList_nil ?_
      refine then_n ?_
      refine wp_ret ?_
      refine ret_t hF rfl rfl ?_
      exact ⟨_, rfl, congrArg (Value.int .i64) (idx_none hinv.2 (by omega)), hS⟩

set_option maxRecDepth 100000 in
theorem containsP_any {k : FuncId} {caps : List Value} {p : E59 → Bool} {H : List Chunk} (w0 w : World) (v : Value) (L : List E59) (hcf : ∀ (args : Array Value) (w : World), (callFunc k args).run Try.prog w = .ok (.enter k args) w) (hp : PredOn Try.prog w0 H k caps (fun x : E59 => .agg #[.int .i64 x.f0, .string x.f1]) p) (hr : ∀ w, Sat w0 w H → Rd w 2 v (L).length (cells enc59 (L))) (hS : Sat w0 w H) (hL : L.length ≤ 1000000) :
    Fn Try.prog 52 #[v, .func (.func k) #[] caps.toArray] w (fun v w' => v = .bool (L.any p) ∧ Sat w0 w' H) := by
  obtain ⟨Av, cv, rfl⟩ := (hr _ hS).form
  refine c_enterS (N := 9) (l := [_, _]) Try.func52 rfl rfl (fun a hF => ?_)
  refine c_seq ?_
  refine c_region ?_
  refine seq_yl hF (wn_none rfl) rfl rfl (yl_assign hF rfl rfl) ?_
  clear hF; intro a hF
  refine wpList_nil ?_
  refine then_n ?_
  refine c_seq ?_
  refine c_region ?_
  refine seq_yl hF (wn_none rfl) rfl rfl (yl_move hF rfl rfl) ?_
  clear hF; intro a hF
  refine seq_yl hF (wn_none rfl) rfl rfl (yl_move hF rfl rfl) ?_
  clear hF; intro a hF
  refine seq_wp (wn_none rfl) (wp_call (vs := [_, _]) hF rfl rfl rfl rfl cf61 (indexP_any (k := k) (caps := caps) (p := p) _ _ _ L hcf hp hr hS hL) ?_)
  clear hF hS; rintro _ w ⟨rfl, hS⟩ a hF
  refine seq_yl hF (wn_none rfl) rfl rfl (yl_bin hF rfl rfl rfl rfl (fun _ => run_geq)) ?_
  clear hF; intro a hF
  refine seq_yl hF (wn_none rfl) rfl rfl (yl_assign hF rfl rfl) ?_
  clear hF; intro a hF
  refine wpList_nil ?_
  refine then_n ?_
  refine wp_ret ?_
  refine ret_t hF rfl rfl ?_
  exact ⟨_, rfl, congrArg Value.bool (cont_idx p L), hS⟩

set_option maxRecDepth 100000 in
theorem clValid (w0 w : World) (H : List Chunk) (j gd : Nat) (st : ByteArray) (lv : Value) (rm : Int) (x : E59) (hj : H[j]? = some (.box gd 24 #[.string st, lv, .int .i64 rm])) (hz : (st.size : Int) ≤ 9223372036854775807) (hS : Sat w0 w H) :
    Fn Try.prog 59 #[.agg #[.int .i64 x.f0, .string x.f1], .pointer (some ⟨gd, 0, none⟩)] w (fun v w' => v = .bool (!(decide (okP (st.size : Int) x))) ∧ Sat w0 w' H) := by
  refine c_enterS (N := 15) (l := [_, _]) Try.func59 rfl rfl (fun a hF => ?_)
  refine c_seq ?_
  refine c_region ?_
  refine seq_wp (wn_none rfl) (wp_box (cs := #[_, _]) hF hS rfl rfl rfl rfl rfl ?_)
  clear hF hS; intro a w g41 hF hS
  refine seq_yl hF (wn_none rfl) rfl rfl (yl_assign hF rfl rfl) ?_
  clear hF; intro a hF
  refine wpList_nil ?_
  refine then_n ?_
  refine c_seq ?_
  refine c_region ?_
  refine seq_yl hF (wn_none rfl) rfl rfl (yl_loadK (rs := [_, _, _]) (fun _ h => h ▸ hS) hF rfl rfl (j + 1) hj ag24 sz24 rfl rfl) ?_
  clear hF; intro a hF
  refine seq_yl hF (wn_none rfl) rfl rfl (yl_fieldAddr hF rfl rfl (fun w => by kernel_rfl : ∀ w, (Instr.fieldAt 59 (.pointer (some ⟨g41, 0, none⟩)) 0).run Try.prog w = .ok (.pointer (some ⟨g41, 0, none⟩)) w)) ?_
  clear hF; intro a hF
  refine seq_yl hF (wn_none rfl) rfl rfl (yl_load (fun _ h => h ▸ hS) hF rfl rfl 0 rfl ag3 rfl) ?_
  clear hF; intro a hF
  refine seq_wp (wn_none rfl) (wp_call (vs := [_, _, _]) hF rfl rfl rfl rfl cf60 (has_any st _ _ (x.f0) (1 : Int) _ (by omega)) ?_)
  clear hF; rintro _ w ⟨rfl, hS1⟩ a hF
  replace hS := hS.callB hS1 rfl; clear hS1
  refine seq_yl hF (wn_none rfl) rfl rfl (yl_un hF rfl rfl (fun _ => run_not)) ?_
  clear hF; intro a hF
  refine seq_yl hF (wn_none rfl) rfl rfl (yl_move hF rfl rfl) ?_
  clear hF; intro a hF
  refine fr_split hF (fun hc42 hF => ?_) (fun hc42 hF => ?_)
  · first | (replace hc42 := of_decide_eq_true hc42) | (replace hc42 := of_decide_eq_false (bnot_t hc42)) | (subst hc42) | (replace hc42 := bnot_t hc42; subst hc42) | (replace hc42 := bnot_t hc42) | skip
    try (have hc42x := hc42; simp only [okS, okI, okW, okP] at hc42x)
    refine seq_skip hF (wn_f hF rfl rfl rfl rfl) rfl rfl ?_
    clear hF; intro a hF
    refine seq_skip hF (wn_f hF rfl rfl rfl rfl) rfl rfl ?_
    clear hF; intro a hF
    refine seq_skip hF (wn_f hF rfl rfl rfl rfl) rfl rfl ?_
    clear hF; intro a hF
    refine seq_skip hF (wn_f hF rfl rfl rfl rfl) rfl rfl ?_
    clear hF; intro a hF
    refine seq_yl hF (wn_none rfl) rfl rfl (yl_pick (u := _) (v := undef) hF rfl rfl (fun _ => rfl) (fun h => by cases h)) ?_
    clear hF; intro a hF
    refine seq_yl hF (wn_none rfl) rfl rfl (yl_assign hF rfl rfl) ?_
    clear hF; intro a hF
    refine wpList_nil ?_
    refine then_n ?_
    refine wp_ret ?_
    refine ret_t hF rfl rfl ?_
    exact ⟨_, rfl, congrArg Value.bool (ndec_t (by (simp only [okP, okS, okI] at *; omega))), (hS.subT 1 [] (by decide) (by first | rfl | simp) (by simp) (by simp))⟩
  · first | (replace hc42 := of_decide_eq_false hc42) | (replace hc42 := of_decide_eq_true (bnot_f hc42)) | (subst hc42) | (replace hc42 := bnot_f hc42; subst hc42) | (replace hc42 := bnot_f hc42) | skip
    try (have hc42x := hc42; simp only [okS, okI, okW, okP] at hc42x)
    refine seq_yl hF (wn_t hF rfl rfl rfl rfl) rfl rfl (yl_fieldAddr hF rfl rfl (fun w => by kernel_rfl : ∀ w, (Instr.fieldAt 59 (.pointer (some ⟨g41, 0, none⟩)) 1).run Try.prog w = .ok (.pointer (some ⟨g41, 1, none⟩)) w)) ?_
    clear hF; intro a hF
    refine seq_yl hF (wn_t hF rfl rfl rfl rfl) rfl rfl (yl_load (fun _ h => h ▸ hS) hF rfl rfl 0 rfl ag9 rfl) ?_
    clear hF; intro a hF
    refine seq_yl hF (wn_t hF rfl rfl rfl rfl) rfl rfl (yl_len hF rfl rfl (fun _ => run_lenStr Try.underlying9)) ?_
    clear hF; intro a hF
    refine seq_yl hF (wn_t hF rfl rfl rfl rfl) rfl rfl (yl_bin hF rfl rfl rfl rfl (fun _ => run_neq)) ?_
    clear hF; intro a hF
    refine seq_yl hF (wn_none rfl) rfl rfl (yl_pick (u := _) (v := undef) hF rfl rfl (fun h => by cases h) (fun _ => rfl)) ?_
    clear hF; intro a hF
    refine seq_yl hF (wn_none rfl) rfl rfl (yl_assign hF rfl rfl) ?_
    clear hF; intro a hF
    refine wpList_nil ?_
    refine then_n ?_
    refine wp_ret ?_
    refine ret_t hF rfl rfl ?_
    exact ⟨_, rfl, congrArg Value.bool ((dec_d (q := ¬ (okP (st.size : Int) x)) (by constructor <;> intro _ <;> (simp only [okP, okS, okI] at *; omega))).trans decide_not), (hS.subT 1 [] (by decide) (by first | rfl | simp) (by simp) (by simp))⟩

set_option maxRecDepth 100000 in
theorem dValid_any (st : ByteArray) (lv : Value) (L : List E59) (rm : Int) (w0 : World) (hv : Rd w0 2 lv (L).length (cells enc59 (L))) (hz : (st.size : Int) ≤ 9223372036854775807) (hL : L.length ≤ 1000000) :
    Fn Try.prog 51 #[.agg #[.string st, lv, .int .i64 rm]] w0 (fun v w' => v = .bool (decide (okD st L rm)) ∧ Sat w0 w' []) := by
  obtain ⟨Alv, clv, rfl⟩ := Rd.form hv
  refine c_enter (N := 31) (l := [_]) Try.func51 rfl rfl (fun a w hF hS => ?_)
  replace hS := hS.addRo hv
  refine c_seq ?_
  refine c_region ?_
  refine seq_wp (wn_none rfl) (wp_box (cs := #[_, _, _]) hF hS rfl rfl rfl rfl rfl ?_)
  clear hF hS; intro a w g43 hF hS
  refine seq_yl hF (wn_none rfl) rfl rfl (yl_assign hF rfl rfl) ?_
  clear hF; intro a hF
  refine wpList_nil ?_
  refine then_n ?_
  refine c_seq ?_
  refine c_region ?_
  refine seq_yl hF (wn_none rfl) rfl rfl (yl_fieldAddr hF rfl rfl (fun w => by kernel_rfl : ∀ w, (Instr.fieldAt 24 (.pointer (some ⟨g43, 0, none⟩)) 0).run Try.prog w = .ok (.pointer (some ⟨g43, 0, none⟩)) w)) ?_
  clear hF; intro a hF
  refine seq_yl hF (wn_none rfl) rfl rfl (yl_load (fun _ h => h ▸ hS) hF rfl rfl 0 rfl ag9 rfl) ?_
  clear hF; intro a hF
  refine seq_wp (wn_none rfl) (wp_call (vs := [_]) hF rfl rfl rfl rfl cf58 (imValid_any st _) ?_)
  clear hF; rintro _ w ⟨rfl, hS1⟩ a hF
  replace hS := hS.callB hS1 rfl; clear hS1
  refine seq_yl hF (wn_none rfl) rfl rfl (yl_move hF rfl rfl) ?_
  clear hF; intro a hF
  refine fr_split hF (fun hc44 hF => ?_) (fun hc44 hF => ?_)
  · first | (replace hc44 := of_decide_eq_true hc44) | (replace hc44 := of_decide_eq_false (bnot_t hc44)) | (subst hc44) | (replace hc44 := bnot_t hc44; subst hc44) | (replace hc44 := bnot_t hc44) | skip
    try (have hc44x := hc44; simp only [okS, okI, okW, okP] at hc44x)
    refine seq_yl hF (wn_t hF rfl rfl rfl rfl) rfl rfl (yl_fieldAddr hF rfl rfl (fun w => by kernel_rfl : ∀ w, (Instr.fieldAt 24 (.pointer (some ⟨g43, 0, none⟩)) 2).run Try.prog w = .ok (.pointer (some ⟨g43, 2, none⟩)) w)) ?_
    clear hF; intro a hF
    refine seq_yl hF (wn_t hF rfl rfl rfl rfl) rfl rfl (yl_load (fun _ h => h ▸ hS) hF rfl rfl 0 rfl ag3 rfl) ?_
    clear hF; intro a hF
    refine seq_yl hF (wn_t hF rfl rfl rfl rfl) rfl rfl (yl_bin hF rfl rfl rfl rfl (fun _ => run_geq)) ?_
    clear hF; intro a hF
    refine seq_yl hF (wn_none rfl) rfl rfl (yl_pick (u := _) (v := undef) hF rfl rfl (fun _ => rfl) (fun h => by cases h)) ?_
    clear hF; intro a hF
    refine seq_yl hF (wn_none rfl) rfl rfl (yl_move hF rfl rfl) ?_
    clear hF; intro a hF
    refine fr_split hF (fun hc45 hF => ?_) (fun hc45 hF => ?_)
    · first | (replace hc45 := of_decide_eq_true hc45) | (replace hc45 := of_decide_eq_false (bnot_t hc45)) | (subst hc45) | (replace hc45 := bnot_t hc45; subst hc45) | (replace hc45 := bnot_t hc45) | skip
      try (have hc45x := hc45; simp only [okS, okI, okW, okP] at hc45x)
      refine seq_yl hF (wn_t hF rfl rfl rfl rfl) rfl rfl (yl_fieldAddr hF rfl rfl (fun w => by kernel_rfl : ∀ w, (Instr.fieldAt 24 (.pointer (some ⟨g43, 0, none⟩)) 2).run Try.prog w = .ok (.pointer (some ⟨g43, 2, none⟩)) w)) ?_
      clear hF; intro a hF
      refine seq_yl hF (wn_t hF rfl rfl rfl rfl) rfl rfl (yl_load (fun _ h => h ▸ hS) hF rfl rfl 0 rfl ag3 rfl) ?_
      clear hF; intro a hF
      refine seq_yl hF (wn_t hF rfl rfl rfl rfl) rfl rfl (yl_bin hF rfl rfl rfl rfl (fun _ => run_leq)) ?_
      clear hF; intro a hF
      refine seq_yl hF (wn_none rfl) rfl rfl (yl_pick (u := _) (v := undef) hF rfl rfl (fun _ => rfl) (fun h => by cases h)) ?_
      clear hF; intro a hF
      refine seq_yl hF (wn_none rfl) rfl rfl (yl_move hF rfl rfl) ?_
      clear hF; intro a hF
      refine fr_split hF (fun hc46 hF => ?_) (fun hc46 hF => ?_)
      · first | (replace hc46 := of_decide_eq_true hc46) | (replace hc46 := of_decide_eq_false (bnot_t hc46)) | (subst hc46) | (replace hc46 := bnot_t hc46; subst hc46) | (replace hc46 := bnot_t hc46) | skip
        try (have hc46x := hc46; simp only [okS, okI, okW, okP] at hc46x)
        refine seq_yl hF (wn_t hF rfl rfl rfl rfl) rfl rfl (yl_fieldAddr hF rfl rfl (fun w => by kernel_rfl : ∀ w, (Instr.fieldAt 24 (.pointer (some ⟨g43, 0, none⟩)) 1).run Try.prog w = .ok (.pointer (some ⟨g43, 1, none⟩)) w)) ?_
        clear hF; intro a hF
        refine seq_yl hF (wn_t hF rfl rfl rfl rfl) rfl rfl (yl_load (fun _ h => h ▸ hS) hF rfl rfl 0 rfl ag22 rfl) ?_
        clear hF; intro a hF
        refine seq_yl hF (wn_t hF rfl rfl rfl rfl) rfl rfl (yl_len hF rfl rfl (fun _ => run_lenRd sl22 (hS.rdRo 1 rfl))) ?_
        clear hF; intro a hF
        refine seq_yl hF (wn_t hF rfl rfl rfl rfl) rfl rfl (yl_fieldAddr hF rfl rfl (fun w => by kernel_rfl : ∀ w, (Instr.fieldAt 24 (.pointer (some ⟨g43, 0, none⟩)) 2).run Try.prog w = .ok (.pointer (some ⟨g43, 2, none⟩)) w)) ?_
        clear hF; intro a hF
        refine seq_yl hF (wn_t hF rfl rfl rfl rfl) rfl rfl (yl_load (fun _ h => h ▸ hS) hF rfl rfl 0 rfl ag3 rfl) ?_
        clear hF; intro a hF
        refine seq_yl hF (wn_t hF rfl rfl rfl rfl) rfl rfl (yl_bin hF rfl rfl rfl rfl (fun _ => run_leq)) ?_
        clear hF; intro a hF
        refine seq_yl hF (wn_none rfl) rfl rfl (yl_pick (u := _) (v := undef) hF rfl rfl (fun _ => rfl) (fun h => by cases h)) ?_
        clear hF; intro a hF
        refine seq_yl hF (wn_none rfl) rfl rfl (yl_move hF rfl rfl) ?_
        clear hF; intro a hF
        refine fr_split hF (fun hc47 hF => ?_) (fun hc47 hF => ?_)
        · first | (replace hc47 := of_decide_eq_true hc47) | (replace hc47 := of_decide_eq_false (bnot_t hc47)) | (subst hc47) | (replace hc47 := bnot_t hc47; subst hc47) | (replace hc47 := bnot_t hc47) | skip
          try (have hc47x := hc47; simp only [okS, okI, okW, okP] at hc47x)
          refine seq_yl hF (wn_t hF rfl rfl rfl rfl) rfl rfl (yl_fieldAddr hF rfl rfl (fun w => by kernel_rfl : ∀ w, (Instr.fieldAt 24 (.pointer (some ⟨g43, 0, none⟩)) 1).run Try.prog w = .ok (.pointer (some ⟨g43, 1, none⟩)) w)) ?_
          clear hF; intro a hF
          refine seq_yl hF (wn_t hF rfl rfl rfl rfl) rfl rfl (yl_load (fun _ h => h ▸ hS) hF rfl rfl 0 rfl ag22 rfl) ?_
          clear hF; intro a hF
          refine seq_yl hF (wn_t hF rfl rfl rfl rfl) rfl rfl (yl_makeFunc (vs := [_]) hF rfl rfl) ?_
          clear hF; intro a hF
          refine seq_wp (wn_t hF rfl rfl rfl rfl) (wp_call (vs := [_, _]) hF rfl rfl rfl rfl cf52 (containsP_any (k := 59) (caps := [.pointer (some ⟨g43, 0, none⟩)]) (p := (fun p : E59 => !(decide (okP ((st).size : Int) p)))) _ _ _ L cf59 (fun x w h => clValid _ _ _ 0 _ _ _ _ x rfl (by omega) h) (fun w h => Sat.rdRo h 1 rfl) hS (by first | omega | (simp; done) | (simp; omega))) ?_)
          clear hF hS; rintro _ w ⟨rfl, hS⟩ a hF
          refine seq_yl hF (wn_t hF rfl rfl rfl rfl) rfl rfl (yl_un hF rfl rfl (fun _ => run_not)) ?_
          clear hF; intro a hF
          refine seq_yl hF (wn_none rfl) rfl rfl (yl_pick (u := _) (v := undef) hF rfl rfl (fun _ => rfl) (fun h => by cases h)) ?_
          clear hF; intro a hF
          refine seq_yl hF (wn_none rfl) rfl rfl (yl_assign hF rfl rfl) ?_
          clear hF; intro a hF
          refine wpList_nil ?_
          refine then_n ?_
          refine wp_ret ?_
          refine ret_t hF rfl rfl ?_
          exact ⟨_, rfl, congrArg Value.bool (valid_end (by assumption) (by omega) (by omega) (by omega)), (hS.sub [] (by decide) (by first | rfl | simp) (by simp))⟩
        · first | (replace hc47 := of_decide_eq_false hc47) | (replace hc47 := of_decide_eq_true (bnot_f hc47)) | (subst hc47) | (replace hc47 := bnot_f hc47; subst hc47) | (replace hc47 := bnot_f hc47) | skip
          try (have hc47x := hc47; simp only [okS, okI, okW, okP] at hc47x)
          refine seq_skip hF (wn_f hF rfl rfl rfl rfl) rfl rfl ?_
          clear hF; intro a hF
          refine seq_skip hF (wn_f hF rfl rfl rfl rfl) rfl rfl ?_
          clear hF; intro a hF
          refine seq_skip hF (wn_f hF rfl rfl rfl rfl) rfl rfl ?_
          clear hF; intro a hF
          refine seq_skip hF (wn_f hF rfl rfl rfl rfl) rfl rfl ?_
          clear hF; intro a hF
          refine seq_skip hF (wn_f hF rfl rfl rfl rfl) rfl rfl ?_
          clear hF; intro a hF
          refine seq_yl hF (wn_none rfl) rfl rfl (yl_pick (u := _) (v := undef) hF rfl rfl (fun h => by cases h) (fun _ => rfl)) ?_
          clear hF; intro a hF
          refine seq_yl hF (wn_none rfl) rfl rfl (yl_assign hF rfl rfl) ?_
          clear hF; intro a hF
          refine wpList_nil ?_
          refine then_n ?_
          refine wp_ret ?_
          refine ret_t hF rfl rfl ?_
          exact ⟨_, rfl, congrArg Value.bool (dec_f (fun h9 => by have h8 := okD_I h9; omega)), (hS.sub [] (by decide) (by first | rfl | simp) (by simp))⟩
      · first | (replace hc46 := of_decide_eq_false hc46) | (replace hc46 := of_decide_eq_true (bnot_f hc46)) | (subst hc46) | (replace hc46 := bnot_f hc46; subst hc46) | (replace hc46 := bnot_f hc46) | skip
        try (have hc46x := hc46; simp only [okS, okI, okW, okP] at hc46x)
        refine seq_skip hF (wn_f hF rfl rfl rfl rfl) rfl rfl ?_
        clear hF; intro a hF
        refine seq_skip hF (wn_f hF rfl rfl rfl rfl) rfl rfl ?_
        clear hF; intro a hF
        refine seq_skip hF (wn_f hF rfl rfl rfl rfl) rfl rfl ?_
        clear hF; intro a hF
        refine seq_skip hF (wn_f hF rfl rfl rfl rfl) rfl rfl ?_
        clear hF; intro a hF
        refine seq_skip hF (wn_f hF rfl rfl rfl rfl) rfl rfl ?_
        clear hF; intro a hF
        refine seq_skip hF (wn_f hF rfl rfl rfl rfl) rfl rfl ?_
        clear hF; intro a hF
        refine seq_yl hF (wn_none rfl) rfl rfl (yl_pick (u := _) (v := undef) hF rfl rfl (fun h => by cases h) (fun _ => rfl)) ?_
        clear hF; intro a hF
        refine seq_yl hF (wn_none rfl) rfl rfl (yl_move hF rfl rfl) ?_
        clear hF; intro a hF
        refine seq_skip hF (wn_f hF rfl rfl rfl rfl) rfl rfl ?_
        clear hF; intro a hF
        refine seq_skip hF (wn_f hF rfl rfl rfl rfl) rfl rfl ?_
        clear hF; intro a hF
        refine seq_skip hF (wn_f hF rfl rfl rfl rfl) rfl rfl ?_
        clear hF; intro a hF
        refine seq_skip hF (wn_f hF rfl rfl rfl rfl) rfl rfl ?_
        clear hF; intro a hF
        refine seq_skip hF (wn_f hF rfl rfl rfl rfl) rfl rfl ?_
        clear hF; intro a hF
        refine seq_yl hF (wn_none rfl) rfl rfl (yl_pick (u := _) (v := undef) hF rfl rfl (fun h => by cases h) (fun _ => rfl)) ?_
        clear hF; intro a hF
        refine seq_yl hF (wn_none rfl) rfl rfl (yl_assign hF rfl rfl) ?_
        clear hF; intro a hF
        refine wpList_nil ?_
        refine then_n ?_
        refine wp_ret ?_
        refine ret_t hF rfl rfl ?_
        exact ⟨_, rfl, congrArg Value.bool (dec_f (fun h9 => by have h8 := okD_I h9; omega)), (hS.sub [] (by decide) (by first | rfl | simp) (by simp))⟩
    · first | (replace hc45 := of_decide_eq_false hc45) | (replace hc45 := of_decide_eq_true (bnot_f hc45)) | (subst hc45) | (replace hc45 := bnot_f hc45; subst hc45) | (replace hc45 := bnot_f hc45) | skip
      try (have hc45x := hc45; simp only [okS, okI, okW, okP] at hc45x)
      refine seq_skip hF (wn_f hF rfl rfl rfl rfl) rfl rfl ?_
      clear hF; intro a hF
      refine seq_skip hF (wn_f hF rfl rfl rfl rfl) rfl rfl ?_
      clear hF; intro a hF
      refine seq_skip hF (wn_f hF rfl rfl rfl rfl) rfl rfl ?_
      clear hF; intro a hF
      refine seq_yl hF (wn_none rfl) rfl rfl (yl_pick (u := _) (v := undef) hF rfl rfl (fun h => by cases h) (fun _ => rfl)) ?_
      clear hF; intro a hF
      refine seq_yl hF (wn_none rfl) rfl rfl (yl_move hF rfl rfl) ?_
      clear hF; intro a hF
      refine seq_skip hF (wn_f hF rfl rfl rfl rfl) rfl rfl ?_
      clear hF; intro a hF
      refine seq_skip hF (wn_f hF rfl rfl rfl rfl) rfl rfl ?_
      clear hF; intro a hF
      refine seq_skip hF (wn_f hF rfl rfl rfl rfl) rfl rfl ?_
      clear hF; intro a hF
      refine seq_skip hF (wn_f hF rfl rfl rfl rfl) rfl rfl ?_
      clear hF; intro a hF
      refine seq_skip hF (wn_f hF rfl rfl rfl rfl) rfl rfl ?_
      clear hF; intro a hF
      refine seq_skip hF (wn_f hF rfl rfl rfl rfl) rfl rfl ?_
      clear hF; intro a hF
      refine seq_yl hF (wn_none rfl) rfl rfl (yl_pick (u := _) (v := undef) hF rfl rfl (fun h => by cases h) (fun _ => rfl)) ?_
      clear hF; intro a hF
      refine seq_yl hF (wn_none rfl) rfl rfl (yl_move hF rfl rfl) ?_
      clear hF; intro a hF
      refine seq_skip hF (wn_f hF rfl rfl rfl rfl) rfl rfl ?_
      clear hF; intro a hF
      refine seq_skip hF (wn_f hF rfl rfl rfl rfl) rfl rfl ?_
      clear hF; intro a hF
      refine seq_skip hF (wn_f hF rfl rfl rfl rfl) rfl rfl ?_
      clear hF; intro a hF
      refine seq_skip hF (wn_f hF rfl rfl rfl rfl) rfl rfl ?_
      clear hF; intro a hF
      refine seq_skip hF (wn_f hF rfl rfl rfl rfl) rfl rfl ?_
      clear hF; intro a hF
      refine seq_yl hF (wn_none rfl) rfl rfl (yl_pick (u := _) (v := undef) hF rfl rfl (fun h => by cases h) (fun _ => rfl)) ?_
      clear hF; intro a hF
      refine seq_yl hF (wn_none rfl) rfl rfl (yl_assign hF rfl rfl) ?_
      clear hF; intro a hF
      refine wpList_nil ?_
      refine then_n ?_
      refine wp_ret ?_
      refine ret_t hF rfl rfl ?_
      exact ⟨_, rfl, congrArg Value.bool (dec_f (fun h9 => by have h8 := okD_I h9; omega)), (hS.sub [] (by decide) (by first | rfl | simp) (by simp))⟩
  · first | (replace hc44 := of_decide_eq_false hc44) | (replace hc44 := of_decide_eq_true (bnot_f hc44)) | (subst hc44) | (replace hc44 := bnot_f hc44; subst hc44) | (replace hc44 := bnot_f hc44) | skip
    try (have hc44x := hc44; simp only [okS, okI, okW, okP] at hc44x)
    refine seq_skip hF (wn_f hF rfl rfl rfl rfl) rfl rfl ?_
    clear hF; intro a hF
    refine seq_skip hF (wn_f hF rfl rfl rfl rfl) rfl rfl ?_
    clear hF; intro a hF
    refine seq_skip hF (wn_f hF rfl rfl rfl rfl) rfl rfl ?_
    clear hF; intro a hF
    refine seq_yl hF (wn_none rfl) rfl rfl (yl_pick (u := _) (v := undef) hF rfl rfl (fun h => by cases h) (fun _ => rfl)) ?_
    clear hF; intro a hF
    refine seq_yl hF (wn_none rfl) rfl rfl (yl_move hF rfl rfl) ?_
    clear hF; intro a hF
    refine seq_skip hF (wn_f hF rfl rfl rfl rfl) rfl rfl ?_
    clear hF; intro a hF
    refine seq_skip hF (wn_f hF rfl rfl rfl rfl) rfl rfl ?_
    clear hF; intro a hF
    refine seq_skip hF (wn_f hF rfl rfl rfl rfl) rfl rfl ?_
    clear hF; intro a hF
    refine seq_yl hF (wn_none rfl) rfl rfl (yl_pick (u := _) (v := undef) hF rfl rfl (fun h => by cases h) (fun _ => rfl)) ?_
    clear hF; intro a hF
    refine seq_yl hF (wn_none rfl) rfl rfl (yl_move hF rfl rfl) ?_
    clear hF; intro a hF
    refine seq_skip hF (wn_f hF rfl rfl rfl rfl) rfl rfl ?_
    clear hF; intro a hF
    refine seq_skip hF (wn_f hF rfl rfl rfl rfl) rfl rfl ?_
    clear hF; intro a hF
    refine seq_skip hF (wn_f hF rfl rfl rfl rfl) rfl rfl ?_
    clear hF; intro a hF
    refine seq_skip hF (wn_f hF rfl rfl rfl rfl) rfl rfl ?_
    clear hF; intro a hF
    refine seq_skip hF (wn_f hF rfl rfl rfl rfl) rfl rfl ?_
    clear hF; intro a hF
    refine seq_skip hF (wn_f hF rfl rfl rfl rfl) rfl rfl ?_
    clear hF; intro a hF
    refine seq_yl hF (wn_none rfl) rfl rfl (yl_pick (u := _) (v := undef) hF rfl rfl (fun h => by cases h) (fun _ => rfl)) ?_
    clear hF; intro a hF
    refine seq_yl hF (wn_none rfl) rfl rfl (yl_move hF rfl rfl) ?_
    clear hF; intro a hF
    refine seq_skip hF (wn_f hF rfl rfl rfl rfl) rfl rfl ?_
    clear hF; intro a hF
    refine seq_skip hF (wn_f hF rfl rfl rfl rfl) rfl rfl ?_
    clear hF; intro a hF
    refine seq_skip hF (wn_f hF rfl rfl rfl rfl) rfl rfl ?_
    clear hF; intro a hF
    refine seq_skip hF (wn_f hF rfl rfl rfl rfl) rfl rfl ?_
    clear hF; intro a hF
    refine seq_skip hF (wn_f hF rfl rfl rfl rfl) rfl rfl ?_
    clear hF; intro a hF
    refine seq_yl hF (wn_none rfl) rfl rfl (yl_pick (u := _) (v := undef) hF rfl rfl (fun h => by cases h) (fun _ => rfl)) ?_
    clear hF; intro a hF
    refine seq_yl hF (wn_none rfl) rfl rfl (yl_assign hF rfl rfl) ?_
    clear hF; intro a hF
    refine wpList_nil ?_
    refine then_n ?_
    refine wp_ret ?_
    refine ret_t hF rfl rfl ?_
    exact ⟨_, rfl, congrArg Value.bool (dec_f (fun h9 => by have h8 := okD_I h9; omega)), (hS.sub [] (by decide) (by first | rfl | simp) (by simp))⟩

set_option maxRecDepth 100000 in
theorem dValid2_any (st : ByteArray) (lv : Value) (L : List E59) (rm : Int) (w0 : World) (hv : Rd w0 2 lv (L).length (cells enc59 (L))) (hz : (st.size : Int) ≤ 9223372036854775807) (hL : L.length ≤ 1000000) :
    Fn Try.prog 49 #[.agg #[.string st, lv, .int .i64 rm]] w0 (fun v w' => v = .bool (decide (okD st L rm)) ∧ Sat w0 w' []) := by
  obtain ⟨Alv, clv, rfl⟩ := Rd.form hv
  refine c_enter (N := 55) (l := [_]) Try.func49 rfl rfl (fun a w hF hS => ?_)
  replace hS := hS.addRo hv
  refine c_seq ?_
  refine c_region ?_
  refine seq_wp (wn_none rfl) (wp_box (cs := #[_, _, _]) hF hS rfl rfl rfl rfl rfl ?_)
  clear hF hS; intro a w g48 hF hS
  refine seq_yl hF (wn_none rfl) rfl rfl (yl_assign hF rfl rfl) ?_
  clear hF; intro a hF
  refine wpList_nil ?_
  refine then_n ?_
  refine c_seq ?_
  refine c_seq ?_
  refine c_region ?_
  refine seq_yl hF (wn_none rfl) rfl rfl (yl_fieldAddr hF rfl rfl (fun w => by kernel_rfl : ∀ w, (Instr.fieldAt 24 (.pointer (some ⟨g48, 0, none⟩)) 0).run Try.prog w = .ok (.pointer (some ⟨g48, 0, none⟩)) w)) ?_
  clear hF; intro a hF
  refine seq_yl hF (wn_none rfl) rfl rfl (yl_load (fun _ h => h ▸ hS) hF rfl rfl 0 rfl ag9 rfl) ?_
  clear hF; intro a hF
  refine seq_wp (wn_none rfl) (wp_call (vs := [_]) hF rfl rfl rfl rfl cf44 (imValid2_any st _) ?_)
  clear hF; rintro _ w ⟨rfl, hS1⟩ a hF
  replace hS := hS.callB hS1 rfl; clear hS1
  refine seq_yl hF (wn_none rfl) rfl rfl (yl_un hF rfl rfl (fun _ => run_not)) ?_
  clear hF; intro a hF
  refine seq_yl hF (wn_none rfl) rfl rfl (yl_move hF rfl rfl) ?_
  clear hF; intro a hF
  refine fr_split hF (fun hc49 hF => ?_) (fun hc49 hF => ?_)
  · first | (replace hc49 := of_decide_eq_true hc49) | (replace hc49 := of_decide_eq_false (bnot_t hc49)) | (subst hc49) | (replace hc49 := bnot_t hc49; subst hc49) | (replace hc49 := bnot_t hc49) | skip
    try (have hc49x := hc49; simp only [okS, okI, okW, okP] at hc49x)
    refine seq_skip hF (wn_f hF rfl rfl rfl rfl) rfl rfl ?_
    clear hF; intro a hF
    refine seq_skip hF (wn_f hF rfl rfl rfl rfl) rfl rfl ?_
    clear hF; intro a hF
    refine seq_skip hF (wn_f hF rfl rfl rfl rfl) rfl rfl ?_
    clear hF; intro a hF
    refine seq_yl hF (wn_none rfl) rfl rfl (yl_pick (u := _) (v := undef) hF rfl rfl (fun _ => rfl) (fun h => by cases h)) ?_
    clear hF; intro a hF
    refine seq_yl hF (wn_none rfl) rfl rfl (yl_move hF rfl rfl) ?_
    clear hF; intro a hF
    refine seq_skip hF (wn_f hF rfl rfl rfl rfl) rfl rfl ?_
    clear hF; intro a hF
    refine seq_skip hF (wn_f hF rfl rfl rfl rfl) rfl rfl ?_
    clear hF; intro a hF
    refine seq_skip hF (wn_f hF rfl rfl rfl rfl) rfl rfl ?_
    clear hF; intro a hF
    refine seq_yl hF (wn_none rfl) rfl rfl (yl_pick (u := _) (v := undef) hF rfl rfl (fun _ => rfl) (fun h => by cases h)) ?_
    clear hF; intro a hF
    refine seq_yl hF (wn_none rfl) rfl rfl (yl_move hF rfl rfl) ?_
    clear hF; intro a hF
    refine seq_skip hF (wn_f hF rfl rfl rfl rfl) rfl rfl ?_
    clear hF; intro a hF
    refine seq_skip hF (wn_f hF rfl rfl rfl rfl) rfl rfl ?_
    clear hF; intro a hF
    refine seq_skip hF (wn_f hF rfl rfl rfl rfl) rfl rfl ?_
    clear hF; intro a hF
    refine seq_skip hF (wn_f hF rfl rfl rfl rfl) rfl rfl ?_
    clear hF; intro a hF
    refine seq_skip hF (wn_f hF rfl rfl rfl rfl) rfl rfl ?_
    clear hF; intro a hF
    refine seq_skip hF (wn_f hF rfl rfl rfl rfl) rfl rfl ?_
    clear hF; intro a hF
    refine seq_yl hF (wn_none rfl) rfl rfl (yl_pick (u := _) (v := undef) hF rfl rfl (fun _ => rfl) (fun h => by cases h)) ?_
    clear hF; intro a hF
    refine wpList_nil ?_
    refine then_n ?_
    refine c_cond_t hF rfl ?_
    refine c_seq ?_
    refine c_region ?_
    refine seq_yl hF (wn_none rfl) rfl rfl (yl_assign hF rfl rfl) ?_
    clear hF; intro a hF
    refine wpList_nil ?_
    refine then_n ?_
    refine wp_ret ?_
    refine then_r ?_
    refine ret_t hF rfl rfl ?_
    exact ⟨_, rfl, congrArg Value.bool (dec_f (fun h9 => by have h8 := okD_I h9; omega)), (hS.sub [] (by decide) (by first | rfl | simp) (by simp))⟩
  · first | (replace hc49 := of_decide_eq_false hc49) | (replace hc49 := of_decide_eq_true (bnot_f hc49)) | (subst hc49) | (replace hc49 := bnot_f hc49; subst hc49) | (replace hc49 := bnot_f hc49) | skip
    try (have hc49x := hc49; simp only [okS, okI, okW, okP] at hc49x)
    refine seq_yl hF (wn_t hF rfl rfl rfl rfl) rfl rfl (yl_fieldAddr hF rfl rfl (fun w => by kernel_rfl : ∀ w, (Instr.fieldAt 24 (.pointer (some ⟨g48, 0, none⟩)) 2).run Try.prog w = .ok (.pointer (some ⟨g48, 2, none⟩)) w)) ?_
    clear hF; intro a hF
    refine seq_yl hF (wn_t hF rfl rfl rfl rfl) rfl rfl (yl_load (fun _ h => h ▸ hS) hF rfl rfl 0 rfl ag3 rfl) ?_
    clear hF; intro a hF
    refine seq_yl hF (wn_t hF rfl rfl rfl rfl) rfl rfl (yl_bin hF rfl rfl rfl rfl (fun _ => run_lss)) ?_
    clear hF; intro a hF
    refine seq_yl hF (wn_none rfl) rfl rfl (yl_pick (u := _) (v := undef) hF rfl rfl (fun h => by cases h) (fun _ => rfl)) ?_
    clear hF; intro a hF
    refine seq_yl hF (wn_none rfl) rfl rfl (yl_move hF rfl rfl) ?_
    clear hF; intro a hF
    refine fr_split hF (fun hc50 hF => ?_) (fun hc50 hF => ?_)
    · first | (replace hc50 := of_decide_eq_true hc50) | (replace hc50 := of_decide_eq_false (bnot_t hc50)) | (subst hc50) | (replace hc50 := bnot_t hc50; subst hc50) | (replace hc50 := bnot_t hc50) | skip
      try (have hc50x := hc50; simp only [okS, okI, okW, okP] at hc50x)
      refine seq_skip hF (wn_f hF rfl rfl rfl rfl) rfl rfl ?_
      clear hF; intro a hF
      refine seq_skip hF (wn_f hF rfl rfl rfl rfl) rfl rfl ?_
      clear hF; intro a hF
      refine seq_skip hF (wn_f hF rfl rfl rfl rfl) rfl rfl ?_
      clear hF; intro a hF
      refine seq_yl hF (wn_none rfl) rfl rfl (yl_pick (u := _) (v := undef) hF rfl rfl (fun _ => rfl) (fun h => by cases h)) ?_
      clear hF; intro a hF
      refine seq_yl hF (wn_none rfl) rfl rfl (yl_move hF rfl rfl) ?_
      clear hF; intro a hF
      refine seq_skip hF (wn_f hF rfl rfl rfl rfl) rfl rfl ?_
      clear hF; intro a hF
      refine seq_skip hF (wn_f hF rfl rfl rfl rfl) rfl rfl ?_
      clear hF; intro a hF
      refine seq_skip hF (wn_f hF rfl rfl rfl rfl) rfl rfl ?_
      clear hF; intro a hF
      refine seq_skip hF (wn_f hF rfl rfl rfl rfl) rfl rfl ?_
      clear hF; intro a hF
      refine seq_skip hF (wn_f hF rfl rfl rfl rfl) rfl rfl ?_
      clear hF; intro a hF
      refine seq_skip hF (wn_f hF rfl rfl rfl rfl) rfl rfl ?_
      clear hF; intro a hF
      refine seq_yl hF (wn_none rfl) rfl rfl (yl_pick (u := _) (v := undef) hF rfl rfl (fun _ => rfl) (fun h => by cases h)) ?_
      clear hF; intro a hF
      refine wpList_nil ?_
      refine then_n ?_
      refine c_cond_t hF rfl ?_
      refine c_seq ?_
      refine c_region ?_
      refine seq_yl hF (wn_none rfl) rfl rfl (yl_assign hF rfl rfl) ?_
      clear hF; intro a hF
      refine wpList_nil ?_
      refine then_n ?_
      refine wp_ret ?_
      refine then_r ?_
      refine ret_t hF rfl rfl ?_
      exact ⟨_, rfl, congrArg Value.bool (dec_f (fun h9 => by have h8 := okD_I h9; omega)), (hS.sub [] (by decide) (by first | rfl | simp) (by simp))⟩
    · first | (replace hc50 := of_decide_eq_false hc50) | (replace hc50 := of_decide_eq_true (bnot_f hc50)) | (subst hc50) | (replace hc50 := bnot_f hc50; subst hc50) | (replace hc50 := bnot_f hc50) | skip
      try (have hc50x := hc50; simp only [okS, okI, okW, okP] at hc50x)
      refine seq_yl hF (wn_t hF rfl rfl rfl rfl) rfl rfl (yl_fieldAddr hF rfl rfl (fun w => by kernel_rfl : ∀ w, (Instr.fieldAt 24 (.pointer (some ⟨g48, 0, none⟩)) 2).run Try.prog w = .ok (.pointer (some ⟨g48, 2, none⟩)) w)) ?_
      clear hF; intro a hF
      refine seq_yl hF (wn_t hF rfl rfl rfl rfl) rfl rfl (yl_load (fun _ h => h ▸ hS) hF rfl rfl 0 rfl ag3 rfl) ?_
      clear hF; intro a hF
      refine seq_yl hF (wn_t hF rfl rfl rfl rfl) rfl rfl (yl_bin hF rfl rfl rfl rfl (fun _ => run_gtr)) ?_
      clear hF; intro a hF
      refine seq_yl hF (wn_none rfl) rfl rfl (yl_pick (u := _) (v := undef) hF rfl rfl (fun h => by cases h) (fun _ => rfl)) ?_
      clear hF; intro a hF
      refine seq_yl hF (wn_none rfl) rfl rfl (yl_move hF rfl rfl) ?_
      clear hF; intro a hF
      refine fr_split hF (fun hc51 hF => ?_) (fun hc51 hF => ?_)
      · first | (replace hc51 := of_decide_eq_true hc51) | (replace hc51 := of_decide_eq_false (bnot_t hc51)) | (subst hc51) | (replace hc51 := bnot_t hc51; subst hc51) | (replace hc51 := bnot_t hc51) | skip
        try (have hc51x := hc51; simp only [okS, okI, okW, okP] at hc51x)
        refine seq_skip hF (wn_f hF rfl rfl rfl rfl) rfl rfl ?_
        clear hF; intro a hF
        refine seq_skip hF (wn_f hF rfl rfl rfl rfl) rfl rfl ?_
        clear hF; intro a hF
        refine seq_skip hF (wn_f hF rfl rfl rfl rfl) rfl rfl ?_
        clear hF; intro a hF
        refine seq_skip hF (wn_f hF rfl rfl rfl rfl) rfl rfl ?_
        clear hF; intro a hF
        refine seq_skip hF (wn_f hF rfl rfl rfl rfl) rfl rfl ?_
        clear hF; intro a hF
        refine seq_skip hF (wn_f hF rfl rfl rfl rfl) rfl rfl ?_
        clear hF; intro a hF
        refine seq_yl hF (wn_none rfl) rfl rfl (yl_pick (u := _) (v := undef) hF rfl rfl (fun _ => rfl) (fun h => by cases h)) ?_
        clear hF; intro a hF
        refine wpList_nil ?_
        refine then_n ?_
        refine c_cond_t hF rfl ?_
        refine c_seq ?_
        refine c_region ?_
        refine seq_yl hF (wn_none rfl) rfl rfl (yl_assign hF rfl rfl) ?_
        clear hF; intro a hF
        refine wpList_nil ?_
        refine then_n ?_
        refine wp_ret ?_
        refine then_r ?_
        refine ret_t hF rfl rfl ?_
        exact ⟨_, rfl, congrArg Value.bool (dec_f (fun h9 => by have h8 := okD_I h9; omega)), (hS.sub [] (by decide) (by first | rfl | simp) (by simp))⟩
      · first | (replace hc51 := of_decide_eq_false hc51) | (replace hc51 := of_decide_eq_true (bnot_f hc51)) | (subst hc51) | (replace hc51 := bnot_f hc51; subst hc51) | (replace hc51 := bnot_f hc51) | skip
        try (have hc51x := hc51; simp only [okS, okI, okW, okP] at hc51x)
        refine seq_yl hF (wn_t hF rfl rfl rfl rfl) rfl rfl (yl_fieldAddr hF rfl rfl (fun w => by kernel_rfl : ∀ w, (Instr.fieldAt 24 (.pointer (some ⟨g48, 0, none⟩)) 1).run Try.prog w = .ok (.pointer (some ⟨g48, 1, none⟩)) w)) ?_
        clear hF; intro a hF
        refine seq_yl hF (wn_t hF rfl rfl rfl rfl) rfl rfl (yl_load (fun _ h => h ▸ hS) hF rfl rfl 0 rfl ag22 rfl) ?_
        clear hF; intro a hF
        refine seq_yl hF (wn_t hF rfl rfl rfl rfl) rfl rfl (yl_len hF rfl rfl (fun _ => run_lenRd sl22 (hS.rdRo 1 rfl))) ?_
        clear hF; intro a hF
        refine seq_yl hF (wn_t hF rfl rfl rfl rfl) rfl rfl (yl_fieldAddr hF rfl rfl (fun w => by kernel_rfl : ∀ w, (Instr.fieldAt 24 (.pointer (some ⟨g48, 0, none⟩)) 2).run Try.prog w = .ok (.pointer (some ⟨g48, 2, none⟩)) w)) ?_
        clear hF; intro a hF
        refine seq_yl hF (wn_t hF rfl rfl rfl rfl) rfl rfl (yl_load (fun _ h => h ▸ hS) hF rfl rfl 0 rfl ag3 rfl) ?_
        clear hF; intro a hF
        refine seq_yl hF (wn_t hF rfl rfl rfl rfl) rfl rfl (yl_bin hF rfl rfl rfl rfl (fun _ => run_gtr)) ?_
        clear hF; intro a hF
        refine seq_yl hF (wn_none rfl) rfl rfl (yl_pick (u := _) (v := undef) hF rfl rfl (fun h => by cases h) (fun _ => rfl)) ?_
        clear hF; intro a hF
        refine wpList_nil ?_
        refine then_n ?_
        refine c_cond hF rfl (fun hc52 => ?_) (fun hc52 => ?_)
        · first | (replace hc52 := of_decide_eq_true hc52) | (replace hc52 := of_decide_eq_false (bnot_t hc52)) | (subst hc52) | (replace hc52 := bnot_t hc52; subst hc52) | (replace hc52 := bnot_t hc52) | skip
          try (have hc52x := hc52; simp only [okS, okI, okW, okP] at hc52x)
          refine c_seq ?_
          refine c_region ?_
          refine seq_yl hF (wn_none rfl) rfl rfl (yl_assign hF rfl rfl) ?_
          clear hF; intro a hF
          refine wpList_nil ?_
          refine then_n ?_
          refine wp_ret ?_
          refine then_r ?_
          refine ret_t hF rfl rfl ?_
          exact ⟨_, rfl, congrArg Value.bool (dec_f (fun h9 => by have h8 := okD_I h9; omega)), (hS.sub [] (by decide) (by first | rfl | simp) (by simp))⟩
        · first | (replace hc52 := of_decide_eq_false hc52) | (replace hc52 := of_decide_eq_true (bnot_f hc52)) | (subst hc52) | (replace hc52 := bnot_f hc52; subst hc52) | (replace hc52 := bnot_f hc52) | skip
          try (have hc52x := hc52; simp only [okS, okI, okW, okP] at hc52x)
          refine wp_skip ?_
          refine then_n ?_
          refine c_seq ?_
          refine c_seq ?_
          refine c_region ?_
          refine seq_yl hF (wn_none rfl) rfl rfl (yl_assign hF rfl rfl) ?_
          clear hF; intro a hF
          refine wpList_nil ?_
          refine then_n ?_
          refine wp_block ?_
          refine c_loop (fun m a w => ∃ (k : Nat), m = L.length - k ∧ (k ≤ L.length ∧ ∀ p ∈ L.take k, okP (st.size : Int) p) ∧ Fr 55 a [(1, .pointer (some ⟨g48, 0, none⟩)), (3, .int .i64 ((k : Nat) : Int))] ∧ Sat w0 w (.box g48 24 #[.string st, .slice Alv (L).length clv, .int .i64 (rm)] :: .ro 2 (.slice Alv (L).length clv) (L).length (cells enc59 (L)) :: [])) (L.length - 0) ?_ ?_
          · exact ⟨0, rfl, ⟨Nat.zero_le _, by simp⟩, hF.to [1, 3] rfl, (hS.sub [0, 1] (by decide) (by first | rfl | simp) (by simp))⟩
          · clear hF hS; try clear hSS
            clear a w; rintro m a w ⟨k, rfl, hinv, hF, hS⟩
            have hk := hinv.1
            refine c_seq ?_
            refine c_seq ?_
            refine c_region ?_
            refine seq_yl hF (wn_none rfl) rfl rfl (yl_move hF rfl rfl) ?_
            clear hF; intro a hF
            refine seq_yl hF (wn_none rfl) rfl rfl (yl_fieldAddr hF rfl rfl (fun w => by kernel_rfl : ∀ w, (Instr.fieldAt 24 (.pointer (some ⟨g48, 0, none⟩)) 1).run Try.prog w = .ok (.pointer (some ⟨g48, 1, none⟩)) w)) ?_
            clear hF; intro a hF
            refine seq_yl hF (wn_none rfl) rfl rfl (yl_load (fun _ h => h ▸ hS) hF rfl rfl 0 rfl ag22 rfl) ?_
            clear hF; intro a hF
            refine seq_yl hF (wn_none rfl) rfl rfl (yl_len hF rfl rfl (fun _ => run_lenRd sl22 (hS.rdRo 1 rfl))) ?_
            clear hF; intro a hF
            refine seq_yl hF (wn_none rfl) rfl rfl (yl_bin hF rfl rfl rfl rfl (fun _ => run_lss)) ?_
            clear hF; intro a hF
            refine wpList_nil ?_
            refine then_n ?_
            refine c_cond hF rfl (fun hc53 => ?_) (fun hc53 => ?_)
            · first | (replace hc53 := of_decide_eq_true hc53) | (replace hc53 := of_decide_eq_false (bnot_t hc53)) | (subst hc53) | (replace hc53 := bnot_t hc53; subst hc53) | (replace hc53 := bnot_t hc53) | skip
              try (have hc53x := hc53; simp only [okS, okI, okW, okP] at hc53x)
              refine wp_skip ?_
              refine then_n ?_
              refine c_seq ?_
              refine wp_block ?_
              refine c_seq ?_
              refine c_region ?_
              refine seq_yl hF (wn_none rfl) rfl rfl (yl_fieldAddr hF rfl rfl (fun w => by kernel_rfl : ∀ w, (Instr.fieldAt 24 (.pointer (some ⟨g48, 0, none⟩)) 1).run Try.prog w = .ok (.pointer (some ⟨g48, 1, none⟩)) w)) ?_
              clear hF; intro a hF
              refine seq_yl hF (wn_none rfl) rfl rfl (yl_load (fun _ h => h ▸ hS) hF rfl rfl 0 rfl ag22 rfl) ?_
              clear hF; intro a hF
              refine seq_yl hF (wn_none rfl) rfl rfl (yl_move hF rfl rfl) ?_
              clear hF; intro a hF
              have hlt_hx54 : k < (L).length := by first | omega | (simp; done) | (simp; omega)
              obtain ⟨ad55, rfl⟩ := rd_some (hS.rdRo 1 rfl) hlt_hx54
              obtain ⟨x54, hx54⟩ := get_some hlt_hx54
              refine seq_yl hF (wn_none rfl) rfl rfl (yl_indexAddr hF rfl rfl rfl (fun _ => run_idx' sl22 sz59 (hS.rdRo 1 rfl) hlt_hx54)) ?_
              clear hF; intro a hF
              refine seq_yl hF (wn_none rfl) rfl rfl (yl_loadEl (rs := [.int .i64 (x54.f0), .string x54.f1]) hF rfl rfl ag59 sz59 rfl (fun _ h => rd_cells (enc := enc59) (by subst h; exact hS.rdRo 1 rfl) enc59_len hx54)) ?_
              clear hF; intro a hF
              refine seq_wp (wn_none rfl) (wp_alloc (cs := #[_, _]) hF hS rfl rfl rfl zr59 rfl ?_)
              clear hF hS; intro a w g56 hF hS
              refine seq_wp (wn_none rfl) (wp_store (cs' := #[_, _]) hF hS rfl rfl rfl rfl 0 rfl sz59 (by simp [Value.cells, Value.oneCell']) (by simp [Value.cells]) rfl ?_)
              clear hF hS; intro a w hF hS
              refine wpList_nil ?_
              refine then_n ?_
              refine c_seq ?_
              refine ha_startS hS [0, 1] 16 (by kernel_rfl) ?_; clear hS; intro w hS
              have hSS := hS.sub [0, 1] (by decide) rfl (by simp)
              refine ha_y 0 hF rfl rfl rfl (wn_none rfl) (.inr hSS) (yl_fieldAddr hF rfl rfl (fun w => by kernel_rfl : ∀ w, (Instr.fieldAt 59 (.pointer (some ⟨g56, 0, none⟩)) 0).run Try.prog w = .ok (.pointer (some ⟨g56, 0, none⟩)) w)) ?_
              clear hF; intro a hF
              refine ha_l 1 hF rfl rfl rfl (wn_none rfl) hSS (yl_load (fun _ h => h) hF rfl rfl 0 rfl ag3 rfl) ?_
              clear hF; intro a hF
              refine ha_y 2 hF rfl rfl rfl (wn_none rfl) (.inr hSS) (yl_bin hF rfl rfl rfl rfl (fun _ => run_lss)) ?_
              clear hF; intro a hF
              refine ha_y 3 hF rfl rfl rfl (wn_none rfl) (.inr hSS) (yl_move hF rfl rfl) ?_
              clear hF; intro a hF
              refine fr_split hF (fun hc57 hF => ?_) (fun hc57 hF => ?_)
              · first | (replace hc57 := of_decide_eq_true hc57) | (replace hc57 := of_decide_eq_false (bnot_t hc57)) | (subst hc57) | (replace hc57 := bnot_t hc57; subst hc57) | (replace hc57 := bnot_t hc57) | skip
                try (have hc57x := hc57; simp only [okS, okI, okW, okP] at hc57x)
                refine ha_s 4 hF rfl rfl rfl (wn_f hF rfl rfl rfl rfl) (.inr hSS) ?_
                clear hF; intro a hF
                refine ha_s 5 hF rfl rfl rfl (wn_f hF rfl rfl rfl rfl) (.inr hSS) ?_
                clear hF; intro a hF
                refine ha_s 6 hF rfl rfl rfl (wn_f hF rfl rfl rfl rfl) (.inr hSS) ?_
                clear hF; intro a hF
                refine ha_s 7 hF rfl rfl rfl (wn_f hF rfl rfl rfl rfl) (.inr hSS) ?_
                clear hF; intro a hF
                refine ha_s 8 hF rfl rfl rfl (wn_f hF rfl rfl rfl rfl) (.inr hSS) ?_
                clear hF; intro a hF
                refine ha_y 9 hF rfl rfl rfl (wn_none rfl) (.inr hSS) (yl_pick (u := _) (v := undef) hF rfl rfl (fun _ => rfl) (fun h => by cases h)) ?_
                clear hF; intro a hF
                refine ha_y 10 hF rfl rfl rfl (wn_none rfl) (.inr hSS) (yl_move hF rfl rfl) ?_
                clear hF; intro a hF
                refine ha_s 11 hF rfl rfl rfl (wn_f hF rfl rfl rfl rfl) (.inr hSS) ?_
                clear hF; intro a hF
                refine ha_s 12 hF rfl rfl rfl (wn_f hF rfl rfl rfl rfl) (.inr hSS) ?_
                clear hF; intro a hF
                refine ha_s 13 hF rfl rfl rfl (wn_f hF rfl rfl rfl rfl) (.inr hSS) ?_
                clear hF; intro a hF
                refine ha_s 14 hF rfl rfl rfl (wn_f hF rfl rfl rfl rfl) (.inr hSS) ?_
                clear hF; intro a hF
                refine ha_y 15 hF rfl rfl rfl (wn_none rfl) (.inr hSS) (yl_pick (u := _) (v := undef) hF rfl rfl (fun _ => rfl) (fun h => by cases h)) ?_
                clear hF; intro a hF
                refine ha_done (by kernel_rfl) ?_ _
                refine then_n ?_
                refine c_cond_t hF rfl ?_
                refine c_seq ?_
                refine c_region ?_
                refine seq_yl hF (wn_none rfl) rfl rfl (yl_assign hF rfl rfl) ?_
                clear hF; intro a hF
                refine wpList_nil ?_
                refine then_n ?_
                refine wp_ret ?_
                refine inb_r ?_
                refine then_r ?_
                refine then_r ?_
                refine inb_r ?_
                refine then_r ?_
                refine ret_t hF rfl rfl ?_
                exact ⟨_, rfl, congrArg Value.bool (valid_bad hx54 (fun h9 => by simp only [okP, okS, okI] at h9; omega)), (hS.sub [] (by decide) (by first | rfl | simp) (by simp))⟩
              · first | (replace hc57 := of_decide_eq_false hc57) | (replace hc57 := of_decide_eq_true (bnot_f hc57)) | (subst hc57) | (replace hc57 := bnot_f hc57; subst hc57) | (replace hc57 := bnot_f hc57) | skip
                try (have hc57x := hc57; simp only [okS, okI, okW, okP] at hc57x)
                refine ha_y 4 hF rfl rfl rfl (wn_t hF rfl rfl rfl rfl) (.inr hSS) (yl_fieldAddr hF rfl rfl (fun w => by kernel_rfl : ∀ w, (Instr.fieldAt 59 (.pointer (some ⟨g56, 0, none⟩)) 0).run Try.prog w = .ok (.pointer (some ⟨g56, 0, none⟩)) w)) ?_
                clear hF; intro a hF
                refine ha_l 5 hF rfl rfl rfl (wn_t hF rfl rfl rfl rfl) hSS (yl_load (fun _ h => h) hF rfl rfl 0 rfl ag3 rfl) ?_
                clear hF; intro a hF
                refine ha_l 6 hF rfl rfl rfl (wn_t hF rfl rfl rfl rfl) hSS (yl_loadK (rs := [_, _, _]) (fun _ h => h) hF rfl rfl 1 rfl ag24 sz24 rfl rfl) ?_
                clear hF; intro a hF
                refine ha_one 7 (by kernel_rfl) rfl (wn_t hF rfl rfl rfl rfl) (wp_call (vs := [_]) hF rfl rfl rfl rfl cf27 (secs_any st _ _ _ (by omega)) ?_)
                clear hF; rintro _ w ⟨rfl, hS1⟩ a hF
                replace hS := hS.callB hS1 rfl; clear hS1
                replace hSS := hS.sub [0, 1] (by decide) rfl (by simp)
                refine ⟨.inr hSS, ?_⟩
                refine ha_y 8 hF rfl rfl rfl (wn_t hF rfl rfl rfl rfl) (.inr hSS) (yl_bin hF rfl rfl rfl rfl (fun _ => run_geq)) ?_
                clear hF; intro a hF
                refine ha_y 9 hF rfl rfl rfl (wn_none rfl) (.inr hSS) (yl_pick (u := _) (v := undef) hF rfl rfl (fun h => by cases h) (fun _ => rfl)) ?_
                clear hF; intro a hF
                refine ha_y 10 hF rfl rfl rfl (wn_none rfl) (.inr hSS) (yl_move hF rfl rfl) ?_
                clear hF; intro a hF
                refine fr_split hF (fun hc58 hF => ?_) (fun hc58 hF => ?_)
                · first | (replace hc58 := of_decide_eq_true hc58) | (replace hc58 := of_decide_eq_false (bnot_t hc58)) | (subst hc58) | (replace hc58 := bnot_t hc58; subst hc58) | (replace hc58 := bnot_t hc58) | skip
                  try (have hc58x := hc58; simp only [okS, okI, okW, okP] at hc58x)
                  refine ha_s 11 hF rfl rfl rfl (wn_f hF rfl rfl rfl rfl) (.inr hSS) ?_
                  clear hF; intro a hF
                  refine ha_s 12 hF rfl rfl rfl (wn_f hF rfl rfl rfl rfl) (.inr hSS) ?_
                  clear hF; intro a hF
                  refine ha_s 13 hF rfl rfl rfl (wn_f hF rfl rfl rfl rfl) (.inr hSS) ?_
                  clear hF; intro a hF
                  refine ha_s 14 hF rfl rfl rfl (wn_f hF rfl rfl rfl rfl) (.inr hSS) ?_
                  clear hF; intro a hF
                  refine ha_y 15 hF rfl rfl rfl (wn_none rfl) (.inr hSS) (yl_pick (u := _) (v := undef) hF rfl rfl (fun _ => rfl) (fun h => by cases h)) ?_
                  clear hF; intro a hF
                  refine ha_done (by kernel_rfl) ?_ _
                  refine then_n ?_
                  refine c_cond_t hF rfl ?_
                  refine c_seq ?_
                  refine c_region ?_
                  refine seq_yl hF (wn_none rfl) rfl rfl (yl_assign hF rfl rfl) ?_
                  clear hF; intro a hF
                  refine wpList_nil ?_
                  refine then_n ?_
                  refine wp_ret ?_
                  refine inb_r ?_
                  refine then_r ?_
                  refine then_r ?_
                  refine inb_r ?_
                  refine then_r ?_
                  refine ret_t hF rfl rfl ?_
                  exact ⟨_, rfl, congrArg Value.bool (valid_bad hx54 (fun h9 => by simp only [okP, okS, okI] at h9; omega)), (hS.sub [] (by decide) (by first | rfl | simp) (by simp))⟩
                · first | (replace hc58 := of_decide_eq_false hc58) | (replace hc58 := of_decide_eq_true (bnot_f hc58)) | (subst hc58) | (replace hc58 := bnot_f hc58; subst hc58) | (replace hc58 := bnot_f hc58) | skip
                  try (have hc58x := hc58; simp only [okS, okI, okW, okP] at hc58x)
                  refine ha_y 11 hF rfl rfl rfl (wn_t hF rfl rfl rfl rfl) (.inr hSS) (yl_fieldAddr hF rfl rfl (fun w => by kernel_rfl : ∀ w, (Instr.fieldAt 59 (.pointer (some ⟨g56, 0, none⟩)) 1).run Try.prog w = .ok (.pointer (some ⟨g56, 1, none⟩)) w)) ?_
                  clear hF; intro a hF
                  refine ha_l 12 hF rfl rfl rfl (wn_t hF rfl rfl rfl rfl) hSS (yl_load (fun _ h => h) hF rfl rfl 0 rfl ag9 rfl) ?_
                  clear hF; intro a hF
                  refine ha_y 13 hF rfl rfl rfl (wn_t hF rfl rfl rfl rfl) (.inr hSS) (yl_len hF rfl rfl (fun _ => run_lenStr Try.underlying9)) ?_
                  clear hF; intro a hF
                  refine ha_y 14 hF rfl rfl rfl (wn_t hF rfl rfl rfl rfl) (.inr hSS) (yl_bin hF rfl rfl rfl rfl (fun _ => run_neq)) ?_
                  clear hF; intro a hF
                  refine ha_y 15 hF rfl rfl rfl (wn_none rfl) (.inr hSS) (yl_pick (u := _) (v := undef) hF rfl rfl (fun h => by cases h) (fun _ => rfl)) ?_
                  clear hF; intro a hF
                  refine ha_done (by kernel_rfl) ?_ _
                  refine then_n ?_
                  refine c_cond hF rfl (fun hc59 => ?_) (fun hc59 => ?_)
                  · first | (replace hc59 := of_decide_eq_true hc59) | (replace hc59 := of_decide_eq_false (bnot_t hc59)) | (subst hc59) | (replace hc59 := bnot_t hc59; subst hc59) | (replace hc59 := bnot_t hc59) | skip
                    try (have hc59x := hc59; simp only [okS, okI, okW, okP] at hc59x)
                    refine c_seq ?_
                    refine c_region ?_
                    refine seq_yl hF (wn_none rfl) rfl rfl (yl_assign hF rfl rfl) ?_
                    clear hF; intro a hF
                    refine wpList_nil ?_
                    refine then_n ?_
                    refine wp_ret ?_
                    refine inb_r ?_
                    refine then_r ?_
                    refine then_r ?_
                    refine inb_r ?_
                    refine then_r ?_
                    refine ret_t hF rfl rfl ?_
                    exact ⟨_, rfl, congrArg Value.bool (valid_bad hx54 (fun h9 => by simp only [okP, okS, okI] at h9; omega)), (hS.sub [] (by decide) (by first | rfl | simp) (by simp))⟩
                  · first | (replace hc59 := of_decide_eq_false hc59) | (replace hc59 := of_decide_eq_true (bnot_f hc59)) | (subst hc59) | (replace hc59 := bnot_f hc59; subst hc59) | (replace hc59 := bnot_f hc59) | skip
                    try (have hc59x := hc59; simp only [okS, okI, okW, okP] at hc59x)
                    refine wp_skip ?_
                    refine inb_n ?_
                    refine then_n ?_
                    refine c_region ?_
                    refine seq_yl hF (wn_none rfl) rfl rfl (yl_move hF rfl rfl) ?_
                    clear hF; intro a hF
                    refine seq_yl hF (wn_none rfl) rfl rfl (yl_bin hF rfl rfl rfl rfl (fun _ => run_inc (by omega))) ?_
                    clear hF; intro a hF
                    refine seq_yl hF (wn_none rfl) rfl rfl (yl_assign hF rfl rfl) ?_
                    clear hF; intro a hF
                    refine wpList_nil ?_
                    refine then_n ?_
                    exact ⟨_, (by omega), k + 1, rfl, ⟨by omega, all_takeP hinv.2 hx54 (by unfold okP okS okI; omega)⟩, hF.to [1, 3] rfl, (hS.sub [1, 2] (by decide) (by first | rfl | simp) (by simp))⟩
            · first | (replace hc53 := of_decide_eq_false hc53) | (replace hc53 := of_decide_eq_true (bnot_f hc53)) | (subst hc53) | (replace hc53 := bnot_f hc53; subst hc53) | (replace hc53 := bnot_f hc53) | skip
              try (have hc53x := hc53; simp only [okS, okI, okW, okP] at hc53x)
              refine wp_exit ?_
              refine then_x ?_
              refine then_x ?_
              refine inb_x ?_
              refine then_n ?_
              refine c_seq ?_
              refine c_region ?_
              refine seq_yl hF (wn_none rfl) rfl rfl (yl_assign hF rfl rfl) ?_
              clear hF; intro a hF
              refine wpList_nil ?_
              refine then_n ?_
              refine wp_ret ?_
              refine ret_t hF rfl rfl ?_
              exact ⟨_, rfl, congrArg Value.bool (valid_all (by assumption) (by omega) (by omega) (by omega) hinv.2 (by omega)), (hS.sub [] (by decide) (by first | rfl | simp) (by simp))⟩

end Go.Proofs.Ytlhcpeolkkadbaa

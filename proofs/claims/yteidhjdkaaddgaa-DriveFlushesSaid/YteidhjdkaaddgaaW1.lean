/- walks, printed by wip/gen -/
import Derived.Test.YteidhjdkaaddgaaW0
namespace Go.Proofs.Yteidhjdkaaddgaa
open Go.RowKit
set_option linter.unusedVariables false
set_option linter.unusedSimpArgs false

set_option maxRecDepth 100000 in
theorem indexP_any {k : FuncId} {caps : List Value} {p : E39 → Bool} {H : List Chunk} (w0 w : World) (v : Value) (L : List E39) (hcf : ∀ (args : Array Value) (w : World), (callFunc k args).run Try.prog w = .ok (.enter k args) w) (hp : PredOn Try.prog w0 H k caps (fun x : E39 => .agg #[.int .i64 x.f0, .string x.f1]) p) (hr : ∀ w, Sat w0 w H → Rd w 2 v (L).length (cells enc39 (L))) (hS : Sat w0 w H) (hL : L.length ≤ 1000000) :
    Fn Try.prog 56 #[v, .func (.func k) #[] caps.toArray] w (fun v w' => v = .int .i64 (idxF p L) ∧ Sat w0 w' H) := by
  obtain ⟨Av, cv, rfl⟩ := (hr _ hS).form
  refine c_enterS (N := 19) (l := [_, _]) Try.func56 rfl rfl (fun a hF => ?_)
  refine c_seq ?_
  refine c_region ?_
  refine seq_yl hF (wn_none rfl) rfl rfl (yl_assign hF rfl rfl) ?_
  clear hF; intro a hF
  refine wpList_nil ?_
  refine then_n ?_
  refine c_seq ?_
  refine c_seq ?_
  refine c_region ?_
  refine seq_yl hF (wn_none rfl) rfl rfl (yl_move hF rfl rfl) ?_
  clear hF; intro a hF
  refine seq_yl hF (wn_none rfl) rfl rfl (yl_len hF rfl rfl (fun _ => run_lenRd sl23 (hr _ hS))) ?_
  clear hF; intro a hF
  refine seq_yl hF (wn_none rfl) rfl rfl (yl_move hF rfl rfl) ?_
  clear hF; intro a hF
  refine wpList_nil ?_
  refine then_n ?_
  refine wp_block ?_
  refine c_loop (fun m a w => ∃ (k0 : Nat), m = L.length - k0 ∧ (k0 ≤ L.length ∧ ∀ x ∈ L.take k0, p x = false) ∧ Fr 19 a [(0, .slice Av L.length cv), (1, .func (.func k) #[] caps.toArray), (7, .int .i64 (((L).length : Nat) : Int)), (8, .int .i64 ((k0 : Nat) : Int))] ∧ Sat w0 w (H)) (L.length - 0) ?_ ?_
  · exact ⟨0, rfl, ⟨Nat.zero_le _, by simp⟩, hF.to [0, 1, 7, 8] rfl, (hS.subT 0 [] (by decide) (by first | rfl | simp) (by simp) (by simp))⟩
  · clear hF hS; try clear hSS
    clear a w; rintro m a w ⟨k0, rfl, hinv, hF, hS⟩
    have hk := hinv.1
    refine c_seq ?_
    refine c_region ?_
    refine seq_yl hF (wn_none rfl) rfl rfl (yl_bin hF rfl rfl rfl rfl (fun _ => run_lss)) ?_
    clear hF; intro a hF
    refine wpList_nil ?_
    refine then_n ?_
    refine c_seq ?_
    refine c_cond hF rfl (fun hc47 => ?_) (fun hc47 => ?_)
    · first | (replace hc47 := of_decide_eq_true hc47) | (replace hc47 := of_decide_eq_false (bnot_t hc47)) | (subst hc47) | (replace hc47 := bnot_t hc47; subst hc47) | (replace hc47 := bnot_t hc47) | skip
      try (have hc47x := hc47; simp only [okS, okI, okW, okP] at hc47x)
      refine wp_skip ?_
      refine then_n ?_
      refine c_seq ?_
      refine wp_block ?_
      refine c_seq ?_
      refine c_region ?_
      refine seq_yl hF (wn_none rfl) rfl rfl (yl_move hF rfl rfl) ?_
      clear hF; intro a hF
      refine seq_yl hF (wn_none rfl) rfl rfl (yl_assign hF rfl rfl) ?_
      clear hF; intro a hF
      refine wpList_nil ?_
      refine then_n ?_
      refine c_seq ?_
      refine c_region ?_
      refine seq_yl hF (wn_none rfl) rfl rfl (yl_move hF rfl rfl) ?_
      clear hF; intro a hF
      refine seq_yl hF (wn_none rfl) rfl rfl (yl_move hF rfl rfl) ?_
      clear hF; intro a hF
      refine seq_yl hF (wn_none rfl) rfl rfl (yl_move hF rfl rfl) ?_
      clear hF; intro a hF
      have hlt_hx48 : k0 < (L).length := by first | omega | (simp; done) | (simp; omega)
      obtain ⟨ad49, rfl⟩ := rd_some (hr _ hS) hlt_hx48
      obtain ⟨x48, hx48⟩ := get_some hlt_hx48
      refine seq_yl hF (wn_none rfl) rfl rfl (yl_indexAddr hF rfl rfl rfl (fun _ => run_idx' sl23 sz39 (hr _ hS) hlt_hx48)) ?_
      clear hF; intro a hF
      refine seq_yl hF (wn_none rfl) rfl rfl (yl_loadEl (rs := [.int .i64 (x48.f0), .string x48.f1]) hF rfl rfl ag39 sz39 rfl (fun _ h => rd_cells (enc := enc39) (by subst h; exact hr _ hS) enc39_len hx48)) ?_
      clear hF; intro a hF
      refine seq_wp (wn_none rfl) (wp_callC (f := k) (vs := [_]) (caps := caps) hF rfl rfl rfl rfl rfl hcf (hp x48 _ hS) ?_)
      clear hF hS; rintro _ w ⟨rfl, hS⟩ a hF
      refine wpList_nil ?_
      refine then_n ?_
      refine c_cond hF rfl (fun hc50 => ?_) (fun hc50 => ?_)
      · first | (replace hc50 := of_decide_eq_true hc50) | (replace hc50 := of_decide_eq_false (bnot_t hc50)) | (subst hc50) | (replace hc50 := bnot_t hc50; subst hc50) | (replace hc50 := bnot_t hc50) | skip
        try (have hc50x := hc50; simp only [okS, okI, okW, okP] at hc50x)
        refine c_seq ?_
        refine c_region ?_
        refine seq_yl hF (wn_none rfl) rfl rfl (yl_move hF rfl rfl) ?_
        clear hF; intro a hF
        refine seq_yl hF (wn_none rfl) rfl rfl (yl_assign hF rfl rfl) ?_
        clear hF; intro a hF
        refine wpList_nil ?_
        refine then_n ?_
        refine wp_ret ?_
        refine inb_r ?_
        refine then_r ?_
        refine then_r ?_
        refine inb_r ?_
        refine then_r ?_
        refine ret_t hF rfl rfl ?_
        exact ⟨_, rfl, congrArg (Value.int .i64) (idx_hit hx48 (by assumption) hinv.2), hS⟩
      · first | (replace hc50 := of_decide_eq_false hc50) | (replace hc50 := of_decide_eq_true (bnot_f hc50)) | (subst hc50) | (replace hc50 := bnot_f hc50; subst hc50) | (replace hc50 := bnot_f hc50) | skip
        try (have hc50x := hc50; simp only [okS, okI, okW, okP] at hc50x)
        refine wp_skip ?_
        refine inb_n ?_
        refine then_n ?_
        refine c_region ?_
        refine seq_yl hF (wn_none rfl) rfl rfl (yl_bin hF rfl rfl rfl rfl (fun _ => run_inc (by omega))) ?_
        clear hF; intro a hF
        refine seq_yl hF (wn_none rfl) rfl rfl (yl_move hF rfl rfl) ?_
        clear hF; intro a hF
        refine wpList_nil ?_
        refine then_n ?_
        exact ⟨_, (by omega), k0 + 1, rfl, ⟨by omega, all_not_step hx48 (by assumption) hinv.2⟩, hF.to [0, 1, 7, 8] rfl, (hS.subT 0 [] (by decide) (by first | rfl | simp) (by simp) (by simp))⟩
    · first | (replace hc47 := of_decide_eq_false hc47) | (replace hc47 := of_decide_eq_true (bnot_f hc47)) | (subst hc47) | (replace hc47 := bnot_f hc47; subst hc47) | (replace hc47 := bnot_f hc47) | skip
      try (have hc47x := hc47; simp only [okS, okI, okW, okP] at hc47x)
      refine wp_exit ?_
      refine then_x ?_
      refine then_x ?_
      refine inb_x ?_
      refine then_n ?_
      refine c_seq ?_
      refine c_region ?_
      refine seq_yl hF (wn_none rfl) rfl rfl (yl_assign hF rfl rfl) ?_
      clear hF; intro a hF
      refine wpList_nil ?_
      refine then_n ?_
      refine wp_ret ?_
      refine ret_t hF rfl rfl ?_
      exact ⟨_, rfl, congrArg (Value.int .i64) (idx_none hinv.2 (by omega)), hS⟩

set_option maxRecDepth 100000 in
theorem containsP_any {k : FuncId} {caps : List Value} {p : E39 → Bool} {H : List Chunk} (w0 w : World) (v : Value) (L : List E39) (hcf : ∀ (args : Array Value) (w : World), (callFunc k args).run Try.prog w = .ok (.enter k args) w) (hp : PredOn Try.prog w0 H k caps (fun x : E39 => .agg #[.int .i64 x.f0, .string x.f1]) p) (hr : ∀ w, Sat w0 w H → Rd w 2 v (L).length (cells enc39 (L))) (hS : Sat w0 w H) (hL : L.length ≤ 1000000) :
    Fn Try.prog 46 #[v, .func (.func k) #[] caps.toArray] w (fun v w' => v = .bool (L.any p) ∧ Sat w0 w' H) := by
  obtain ⟨Av, cv, rfl⟩ := (hr _ hS).form
  refine c_enterS (N := 9) (l := [_, _]) Try.func46 rfl rfl (fun a hF => ?_)
  refine c_seq ?_
  refine c_region ?_
  refine seq_yl hF (wn_none rfl) rfl rfl (yl_assign hF rfl rfl) ?_
  clear hF; intro a hF
  refine wpList_nil ?_
  refine then_n ?_
  refine c_seq ?_
  refine c_region ?_
  refine seq_yl hF (wn_none rfl) rfl rfl (yl_move hF rfl rfl) ?_
  clear hF; intro a hF
  refine seq_yl hF (wn_none rfl) rfl rfl (yl_move hF rfl rfl) ?_
  clear hF; intro a hF
  refine seq_wp (wn_none rfl) (wp_call (vs := [_, _]) hF rfl rfl rfl rfl cf56 (indexP_any (k := k) (caps := caps) (p := p) _ _ _ L hcf hp hr hS hL) ?_)
  clear hF hS; rintro _ w ⟨rfl, hS⟩ a hF
  refine seq_yl hF (wn_none rfl) rfl rfl (yl_bin hF rfl rfl rfl rfl (fun _ => run_geq)) ?_
  clear hF; intro a hF
  refine seq_yl hF (wn_none rfl) rfl rfl (yl_assign hF rfl rfl) ?_
  clear hF; intro a hF
  refine wpList_nil ?_
  refine then_n ?_
  refine wp_ret ?_
  refine ret_t hF rfl rfl ?_
  exact ⟨_, rfl, congrArg Value.bool (cont_idx p L), hS⟩

set_option maxRecDepth 100000 in
theorem clValid (w0 w : World) (H : List Chunk) (j gd : Nat) (st : ByteArray) (lv : Value) (rm : Int) (x : E39) (hj : H[j]? = some (.box gd 25 #[.string st, lv, .int .i64 rm])) (hz : (st.size : Int) ≤ 9223372036854775807) (hS : Sat w0 w H) :
    Fn Try.prog 47 #[.agg #[.int .i64 x.f0, .string x.f1], .pointer (some ⟨gd, 0, none⟩)] w (fun v w' => v = .bool (!(decide (okP (st.size : Int) x))) ∧ Sat w0 w' H) := by
  refine c_enterS (N := 15) (l := [_, _]) Try.func47 rfl rfl (fun a hF => ?_)
  refine c_seq ?_
  refine c_region ?_
  refine seq_wp (wn_none rfl) (wp_box (cs := #[_, _]) hF hS rfl rfl rfl rfl rfl ?_)
  clear hF hS; intro a w g51 hF hS
  refine seq_yl hF (wn_none rfl) rfl rfl (yl_assign hF rfl rfl) ?_
  clear hF; intro a hF
  refine wpList_nil ?_
  refine then_n ?_
  refine c_seq ?_
  refine c_region ?_
  refine seq_yl hF (wn_none rfl) rfl rfl (yl_loadK (rs := [_, _, _]) (fun _ h => h ▸ hS) hF rfl rfl (j + 1) hj ag25 sz25 rfl rfl) ?_
  clear hF; intro a hF
  refine seq_yl hF (wn_none rfl) rfl rfl (yl_fieldAddr hF rfl rfl (fun w => by kernel_rfl : ∀ w, (Instr.fieldAt 39 (.pointer (some ⟨g51, 0, none⟩)) 0).run Try.prog w = .ok (.pointer (some ⟨g51, 0, none⟩)) w)) ?_
  clear hF; intro a hF
  refine seq_yl hF (wn_none rfl) rfl rfl (yl_load (fun _ h => h ▸ hS) hF rfl rfl 0 rfl ag3 rfl) ?_
  clear hF; intro a hF
  refine seq_wp (wn_none rfl) (wp_call (vs := [_, _, _]) hF rfl rfl rfl rfl cf34 (has_any st _ _ (x.f0) (1 : Int) _ (by omega)) ?_)
  clear hF; rintro _ w ⟨rfl, hS1⟩ a hF
  replace hS := hS.callB hS1 rfl; clear hS1
  refine seq_yl hF (wn_none rfl) rfl rfl (yl_un hF rfl rfl (fun _ => run_not)) ?_
  clear hF; intro a hF
  refine seq_yl hF (wn_none rfl) rfl rfl (yl_move hF rfl rfl) ?_
  clear hF; intro a hF
  refine fr_split hF (fun hc52 hF => ?_) (fun hc52 hF => ?_)
  · first | (replace hc52 := of_decide_eq_true hc52) | (replace hc52 := of_decide_eq_false (bnot_t hc52)) | (subst hc52) | (replace hc52 := bnot_t hc52; subst hc52) | (replace hc52 := bnot_t hc52) | skip
    try (have hc52x := hc52; simp only [okS, okI, okW, okP] at hc52x)
    refine seq_skip hF (wn_f hF rfl rfl rfl rfl) rfl rfl ?_
    clear hF; intro a hF
    refine seq_skip hF (wn_f hF rfl rfl rfl rfl) rfl rfl ?_
    clear hF; intro a hF
    refine seq_skip hF (wn_f hF rfl rfl rfl rfl) rfl rfl ?_
    clear hF; intro a hF
    refine seq_skip hF (wn_f hF rfl rfl rfl rfl) rfl rfl ?_
    clear hF; intro a hF
    refine seq_yl hF (wn_none rfl) rfl rfl (yl_pick (u := _) (v := undef) hF rfl rfl (fun _ => rfl) (fun h => by cases h)) ?_
    clear hF; intro a hF
    refine seq_yl hF (wn_none rfl) rfl rfl (yl_assign hF rfl rfl) ?_
    clear hF; intro a hF
    refine wpList_nil ?_
    refine then_n ?_
    refine wp_ret ?_
    refine ret_t hF rfl rfl ?_
    exact ⟨_, rfl, congrArg Value.bool (ndec_t (by (simp only [okP, okS, okI] at *; omega))), (hS.subT 1 [] (by decide) (by first | rfl | simp) (by simp) (by simp))⟩
  · first | (replace hc52 := of_decide_eq_false hc52) | (replace hc52 := of_decide_eq_true (bnot_f hc52)) | (subst hc52) | (replace hc52 := bnot_f hc52; subst hc52) | (replace hc52 := bnot_f hc52) | skip
    try (have hc52x := hc52; simp only [okS, okI, okW, okP] at hc52x)
    refine seq_yl hF (wn_t hF rfl rfl rfl rfl) rfl rfl (yl_fieldAddr hF rfl rfl (fun w => by kernel_rfl : ∀ w, (Instr.fieldAt 39 (.pointer (some ⟨g51, 0, none⟩)) 1).run Try.prog w = .ok (.pointer (some ⟨g51, 1, none⟩)) w)) ?_
    clear hF; intro a hF
    refine seq_yl hF (wn_t hF rfl rfl rfl rfl) rfl rfl (yl_load (fun _ h => h ▸ hS) hF rfl rfl 0 rfl ag9 rfl) ?_
    clear hF; intro a hF
    refine seq_yl hF (wn_t hF rfl rfl rfl rfl) rfl rfl (yl_len hF rfl rfl (fun _ => run_lenStr Try.underlying9)) ?_
    clear hF; intro a hF
    refine seq_yl hF (wn_t hF rfl rfl rfl rfl) rfl rfl (yl_bin hF rfl rfl rfl rfl (fun _ => run_neq)) ?_
    clear hF; intro a hF
    refine seq_yl hF (wn_none rfl) rfl rfl (yl_pick (u := _) (v := undef) hF rfl rfl (fun h => by cases h) (fun _ => rfl)) ?_
    clear hF; intro a hF
    refine seq_yl hF (wn_none rfl) rfl rfl (yl_assign hF rfl rfl) ?_
    clear hF; intro a hF
    refine wpList_nil ?_
    refine then_n ?_
    refine wp_ret ?_
    refine ret_t hF rfl rfl ?_
    exact ⟨_, rfl, congrArg Value.bool ((dec_d (q := ¬ (okP (st.size : Int) x)) (by constructor <;> intro _ <;> (simp only [okP, okS, okI] at *; omega))).trans decide_not), (hS.subT 1 [] (by decide) (by first | rfl | simp) (by simp) (by simp))⟩

set_option maxRecDepth 100000 in
theorem dValid_any (st : ByteArray) (lv : Value) (L : List E39) (rm : Int) (w0 : World) (hv : Rd w0 2 lv (L).length (cells enc39 (L))) (hz : (st.size : Int) ≤ 9223372036854775807) (hL : L.length ≤ 1000000) :
    Fn Try.prog 26 #[.agg #[.string st, lv, .int .i64 rm]] w0 (fun v w' => v = .bool (decide (okD st L rm)) ∧ Sat w0 w' []) := by
  obtain ⟨Alv, clv, rfl⟩ := Rd.form hv
  refine c_enter (N := 31) (l := [_]) Try.func26 rfl rfl (fun a w hF hS => ?_)
  replace hS := hS.addRo hv
  refine c_seq ?_
  refine c_region ?_
  refine seq_wp (wn_none rfl) (wp_box (cs := #[_, _, _]) hF hS rfl rfl rfl rfl rfl ?_)
  clear hF hS; intro a w g53 hF hS
  refine seq_yl hF (wn_none rfl) rfl rfl (yl_assign hF rfl rfl) ?_
  clear hF; intro a hF
  refine wpList_nil ?_
  refine then_n ?_
  refine c_seq ?_
  refine c_region ?_
  refine seq_yl hF (wn_none rfl) rfl rfl (yl_fieldAddr hF rfl rfl (fun w => by kernel_rfl : ∀ w, (Instr.fieldAt 25 (.pointer (some ⟨g53, 0, none⟩)) 0).run Try.prog w = .ok (.pointer (some ⟨g53, 0, none⟩)) w)) ?_
  clear hF; intro a hF
  refine seq_yl hF (wn_none rfl) rfl rfl (yl_load (fun _ h => h ▸ hS) hF rfl rfl 0 rfl ag9 rfl) ?_
  clear hF; intro a hF
  refine seq_wp (wn_none rfl) (wp_call (vs := [_]) hF rfl rfl rfl rfl cf45 (imValid_any st _) ?_)
  clear hF; rintro _ w ⟨rfl, hS1⟩ a hF
  replace hS := hS.callB hS1 rfl; clear hS1
  refine seq_yl hF (wn_none rfl) rfl rfl (yl_move hF rfl rfl) ?_
  clear hF; intro a hF
  refine fr_split hF (fun hc54 hF => ?_) (fun hc54 hF => ?_)
  · first | (replace hc54 := of_decide_eq_true hc54) | (replace hc54 := of_decide_eq_false (bnot_t hc54)) | (subst hc54) | (replace hc54 := bnot_t hc54; subst hc54) | (replace hc54 := bnot_t hc54) | skip
    try (have hc54x := hc54; simp only [okS, okI, okW, okP] at hc54x)
    refine seq_yl hF (wn_t hF rfl rfl rfl rfl) rfl rfl (yl_fieldAddr hF rfl rfl (fun w => by kernel_rfl : ∀ w, (Instr.fieldAt 25 (.pointer (some ⟨g53, 0, none⟩)) 2).run Try.prog w = .ok (.pointer (some ⟨g53, 2, none⟩)) w)) ?_
    clear hF; intro a hF
    refine seq_yl hF (wn_t hF rfl rfl rfl rfl) rfl rfl (yl_load (fun _ h => h ▸ hS) hF rfl rfl 0 rfl ag3 rfl) ?_
    clear hF; intro a hF
    refine seq_yl hF (wn_t hF rfl rfl rfl rfl) rfl rfl (yl_bin hF rfl rfl rfl rfl (fun _ => run_geq)) ?_
    clear hF; intro a hF
    refine seq_yl hF (wn_none rfl) rfl rfl (yl_pick (u := _) (v := undef) hF rfl rfl (fun _ => rfl) (fun h => by cases h)) ?_
    clear hF; intro a hF
    refine seq_yl hF (wn_none rfl) rfl rfl (yl_move hF rfl rfl) ?_
    clear hF; intro a hF
    refine fr_split hF (fun hc55 hF => ?_) (fun hc55 hF => ?_)
    · first | (replace hc55 := of_decide_eq_true hc55) | (replace hc55 := of_decide_eq_false (bnot_t hc55)) | (subst hc55) | (replace hc55 := bnot_t hc55; subst hc55) | (replace hc55 := bnot_t hc55) | skip
      try (have hc55x := hc55; simp only [okS, okI, okW, okP] at hc55x)
      refine seq_yl hF (wn_t hF rfl rfl rfl rfl) rfl rfl (yl_fieldAddr hF rfl rfl (fun w => by kernel_rfl : ∀ w, (Instr.fieldAt 25 (.pointer (some ⟨g53, 0, none⟩)) 2).run Try.prog w = .ok (.pointer (some ⟨g53, 2, none⟩)) w)) ?_
      clear hF; intro a hF
      refine seq_yl hF (wn_t hF rfl rfl rfl rfl) rfl rfl (yl_load (fun _ h => h ▸ hS) hF rfl rfl 0 rfl ag3 rfl) ?_
      clear hF; intro a hF
      refine seq_yl hF (wn_t hF rfl rfl rfl rfl) rfl rfl (yl_bin hF rfl rfl rfl rfl (fun _ => run_leq)) ?_
      clear hF; intro a hF
      refine seq_yl hF (wn_none rfl) rfl rfl (yl_pick (u := _) (v := undef) hF rfl rfl (fun _ => rfl) (fun h => by cases h)) ?_
      clear hF; intro a hF
      refine seq_yl hF (wn_none rfl) rfl rfl (yl_move hF rfl rfl) ?_
      clear hF; intro a hF
      refine fr_split hF (fun hc56 hF => ?_) (fun hc56 hF => ?_)
      · first | (replace hc56 := of_decide_eq_true hc56) | (replace hc56 := of_decide_eq_false (bnot_t hc56)) | (subst hc56) | (replace hc56 := bnot_t hc56; subst hc56) | (replace hc56 := bnot_t hc56) | skip
        try (have hc56x := hc56; simp only [okS, okI, okW, okP] at hc56x)
        refine seq_yl hF (wn_t hF rfl rfl rfl rfl) rfl rfl (yl_fieldAddr hF rfl rfl (fun w => by kernel_rfl : ∀ w, (Instr.fieldAt 25 (.pointer (some ⟨g53, 0, none⟩)) 1).run Try.prog w = .ok (.pointer (some ⟨g53, 1, none⟩)) w)) ?_
        clear hF; intro a hF
        refine seq_yl hF (wn_t hF rfl rfl rfl rfl) rfl rfl (yl_load (fun _ h => h ▸ hS) hF rfl rfl 0 rfl ag23 rfl) ?_
        clear hF; intro a hF
        refine seq_yl hF (wn_t hF rfl rfl rfl rfl) rfl rfl (yl_len hF rfl rfl (fun _ => run_lenRd sl23 (hS.rdRo 1 rfl))) ?_
        clear hF; intro a hF
        refine seq_yl hF (wn_t hF rfl rfl rfl rfl) rfl rfl (yl_fieldAddr hF rfl rfl (fun w => by kernel_rfl : ∀ w, (Instr.fieldAt 25 (.pointer (some ⟨g53, 0, none⟩)) 2).run Try.prog w = .ok (.pointer (some ⟨g53, 2, none⟩)) w)) ?_
        clear hF; intro a hF
        refine seq_yl hF (wn_t hF rfl rfl rfl rfl) rfl rfl (yl_load (fun _ h => h ▸ hS) hF rfl rfl 0 rfl ag3 rfl) ?_
        clear hF; intro a hF
        refine seq_yl hF (wn_t hF rfl rfl rfl rfl) rfl rfl (yl_bin hF rfl rfl rfl rfl (fun _ => run_leq)) ?_
        clear hF; intro a hF
        refine seq_yl hF (wn_none rfl) rfl rfl (yl_pick (u := _) (v := undef) hF rfl rfl (fun _ => rfl) (fun h => by cases h)) ?_
        clear hF; intro a hF
        refine seq_yl hF (wn_none rfl) rfl rfl (yl_move hF rfl rfl) ?_
        clear hF; intro a hF
        refine fr_split hF (fun hc57 hF => ?_) (fun hc57 hF => ?_)
        · first | (replace hc57 := of_decide_eq_true hc57) | (replace hc57 := of_decide_eq_false (bnot_t hc57)) | (subst hc57) | (replace hc57 := bnot_t hc57; subst hc57) | (replace hc57 := bnot_t hc57) | skip
          try (have hc57x := hc57; simp only [okS, okI, okW, okP] at hc57x)
          refine seq_yl hF (wn_t hF rfl rfl rfl rfl) rfl rfl (yl_fieldAddr hF rfl rfl (fun w => by kernel_rfl : ∀ w, (Instr.fieldAt 25 (.pointer (some ⟨g53, 0, none⟩)) 1).run Try.prog w = .ok (.pointer (some ⟨g53, 1, none⟩)) w)) ?_
          clear hF; intro a hF
          refine seq_yl hF (wn_t hF rfl rfl rfl rfl) rfl rfl (yl_load (fun _ h => h ▸ hS) hF rfl rfl 0 rfl ag23 rfl) ?_
          clear hF; intro a hF
          refine seq_yl hF (wn_t hF rfl rfl rfl rfl) rfl rfl (yl_makeFunc (vs := [_]) hF rfl rfl) ?_
          clear hF; intro a hF
          refine seq_wp (wn_t hF rfl rfl rfl rfl) (wp_call (vs := [_, _]) hF rfl rfl rfl rfl cf46 (containsP_any (k := 47) (caps := [.pointer (some ⟨g53, 0, none⟩)]) (p := (fun p : E39 => !(decide (okP ((st).size : Int) p)))) _ _ _ L cf47 (fun x w h => clValid _ _ _ 0 _ _ _ _ x rfl (by omega) h) (fun w h => Sat.rdRo h 1 rfl) hS (by first | omega | (simp; done) | (simp; omega))) ?_)
          clear hF hS; rintro _ w ⟨rfl, hS⟩ a hF
          refine seq_yl hF (wn_t hF rfl rfl rfl rfl) rfl rfl (yl_un hF rfl rfl (fun _ => run_not)) ?_
          clear hF; intro a hF
          refine seq_yl hF (wn_none rfl) rfl rfl (yl_pick (u := _) (v := undef) hF rfl rfl (fun _ => rfl) (fun h => by cases h)) ?_
          clear hF; intro a hF
          refine seq_yl hF (wn_none rfl) rfl rfl (yl_assign hF rfl rfl) ?_
          clear hF; intro a hF
          refine wpList_nil ?_
          refine then_n ?_
          refine wp_ret ?_
          refine ret_t hF rfl rfl ?_
          exact ⟨_, rfl, congrArg Value.bool (valid_end (by assumption) (by omega) (by omega) (by omega)), (hS.sub [] (by decide) (by first | rfl | simp) (by simp))⟩
        · first | (replace hc57 := of_decide_eq_false hc57) | (replace hc57 := of_decide_eq_true (bnot_f hc57)) | (subst hc57) | (replace hc57 := bnot_f hc57; subst hc57) | (replace hc57 := bnot_f hc57) | skip
          try (have hc57x := hc57; simp only [okS, okI, okW, okP] at hc57x)
          refine seq_skip hF (wn_f hF rfl rfl rfl rfl) rfl rfl ?_
          clear hF; intro a hF
          refine seq_skip hF (wn_f hF rfl rfl rfl rfl) rfl rfl ?_
          clear hF; intro a hF
          refine seq_skip hF (wn_f hF rfl rfl rfl rfl) rfl rfl ?_
          clear hF; intro a hF
          refine seq_skip hF (wn_f hF rfl rfl rfl rfl) rfl rfl ?_
          clear hF; intro a hF
          refine seq_skip hF (wn_f hF rfl rfl rfl rfl) rfl rfl ?_
          clear hF; intro a hF
          refine seq_yl hF (wn_none rfl) rfl rfl (yl_pick (u := _) (v := undef) hF rfl rfl (fun h => by cases h) (fun _ => rfl)) ?_
          clear hF; intro a hF
          refine seq_yl hF (wn_none rfl) rfl rfl (yl_assign hF rfl rfl) ?_
          clear hF; intro a hF
          refine wpList_nil ?_
          refine then_n ?_
          refine wp_ret ?_
          refine ret_t hF rfl rfl ?_
          exact ⟨_, rfl, congrArg Value.bool (dec_f (fun h9 => by have h8 := okD_I h9; omega)), (hS.sub [] (by decide) (by first | rfl | simp) (by simp))⟩
      · first | (replace hc56 := of_decide_eq_false hc56) | (replace hc56 := of_decide_eq_true (bnot_f hc56)) | (subst hc56) | (replace hc56 := bnot_f hc56; subst hc56) | (replace hc56 := bnot_f hc56) | skip
        try (have hc56x := hc56; simp only [okS, okI, okW, okP] at hc56x)
        refine seq_skip hF (wn_f hF rfl rfl rfl rfl) rfl rfl ?_
        clear hF; intro a hF
        refine seq_skip hF (wn_f hF rfl rfl rfl rfl) rfl rfl ?_
        clear hF; intro a hF
        refine seq_skip hF (wn_f hF rfl rfl rfl rfl) rfl rfl ?_
        clear hF; intro a hF
        refine seq_skip hF (wn_f hF rfl rfl rfl rfl) rfl rfl ?_
        clear hF; intro a hF
        refine seq_skip hF (wn_f hF rfl rfl rfl rfl) rfl rfl ?_
        clear hF; intro a hF
        refine seq_skip hF (wn_f hF rfl rfl rfl rfl) rfl rfl ?_
        clear hF; intro a hF
        refine seq_yl hF (wn_none rfl) rfl rfl (yl_pick (u := _) (v := undef) hF rfl rfl (fun h => by cases h) (fun _ => rfl)) ?_
        clear hF; intro a hF
        refine seq_yl hF (wn_none rfl) rfl rfl (yl_move hF rfl rfl) ?_
        clear hF; intro a hF
        refine seq_skip hF (wn_f hF rfl rfl rfl rfl) rfl rfl ?_
        clear hF; intro a hF
        refine seq_skip hF (wn_f hF rfl rfl rfl rfl) rfl rfl ?_
        clear hF; intro a hF
        refine seq_skip hF (wn_f hF rfl rfl rfl rfl) rfl rfl ?_
        clear hF; intro a hF
        refine seq_skip hF (wn_f hF rfl rfl rfl rfl) rfl rfl ?_
        clear hF; intro a hF
        refine seq_skip hF (wn_f hF rfl rfl rfl rfl) rfl rfl ?_
        clear hF; intro a hF
        refine seq_yl hF (wn_none rfl) rfl rfl (yl_pick (u := _) (v := undef) hF rfl rfl (fun h => by cases h) (fun _ => rfl)) ?_
        clear hF; intro a hF
        refine seq_yl hF (wn_none rfl) rfl rfl (yl_assign hF rfl rfl) ?_
        clear hF; intro a hF
        refine wpList_nil ?_
        refine then_n ?_
        refine wp_ret ?_
        refine ret_t hF rfl rfl ?_
        exact ⟨_, rfl, congrArg Value.bool (dec_f (fun h9 => by have h8 := okD_I h9; omega)), (hS.sub [] (by decide) (by first | rfl | simp) (by simp))⟩
    · first | (replace hc55 := of_decide_eq_false hc55) | (replace hc55 := of_decide_eq_true (bnot_f hc55)) | (subst hc55) | (replace hc55 := bnot_f hc55; subst hc55) | (replace hc55 := bnot_f hc55) | skip
      try (have hc55x := hc55; simp only [okS, okI, okW, okP] at hc55x)
      refine seq_skip hF (wn_f hF rfl rfl rfl rfl) rfl rfl ?_
      clear hF; intro a hF
      refine seq_skip hF (wn_f hF rfl rfl rfl rfl) rfl rfl ?_
      clear hF; intro a hF
      refine seq_skip hF (wn_f hF rfl rfl rfl rfl) rfl rfl ?_
      clear hF; intro a hF
      refine seq_yl hF (wn_none rfl) rfl rfl (yl_pick (u := _) (v := undef) hF rfl rfl (fun h => by cases h) (fun _ => rfl)) ?_
      clear hF; intro a hF
      refine seq_yl hF (wn_none rfl) rfl rfl (yl_move hF rfl rfl) ?_
      clear hF; intro a hF
      refine seq_skip hF (wn_f hF rfl rfl rfl rfl) rfl rfl ?_
      clear hF; intro a hF
      refine seq_skip hF (wn_f hF rfl rfl rfl rfl) rfl rfl ?_
      clear hF; intro a hF
      refine seq_skip hF (wn_f hF rfl rfl rfl rfl) rfl rfl ?_
      clear hF; intro a hF
      refine seq_skip hF (wn_f hF rfl rfl rfl rfl) rfl rfl ?_
      clear hF; intro a hF
      refine seq_skip hF (wn_f hF rfl rfl rfl rfl) rfl rfl ?_
      clear hF; intro a hF
      refine seq_skip hF (wn_f hF rfl rfl rfl rfl) rfl rfl ?_
      clear hF; intro a hF
      refine seq_yl hF (wn_none rfl) rfl rfl (yl_pick (u := _) (v := undef) hF rfl rfl (fun h => by cases h) (fun _ => rfl)) ?_
      clear hF; intro a hF
      refine seq_yl hF (wn_none rfl) rfl rfl (yl_move hF rfl rfl) ?_
      clear hF; intro a hF
      refine seq_skip hF (wn_f hF rfl rfl rfl rfl) rfl rfl ?_
      clear hF; intro a hF
      refine seq_skip hF (wn_f hF rfl rfl rfl rfl) rfl rfl ?_
      clear hF; intro a hF
      refine seq_skip hF (wn_f hF rfl rfl rfl rfl) rfl rfl ?_
      clear hF; intro a hF
      refine seq_skip hF (wn_f hF rfl rfl rfl rfl) rfl rfl ?_
      clear hF; intro a hF
      refine seq_skip hF (wn_f hF rfl rfl rfl rfl) rfl rfl ?_
      clear hF; intro a hF
      refine seq_yl hF (wn_none rfl) rfl rfl (yl_pick (u := _) (v := undef) hF rfl rfl (fun h => by cases h) (fun _ => rfl)) ?_
      clear hF; intro a hF
      refine seq_yl hF (wn_none rfl) rfl rfl (yl_assign hF rfl rfl) ?_
      clear hF; intro a hF
      refine wpList_nil ?_
      refine then_n ?_
      refine wp_ret ?_
      refine ret_t hF rfl rfl ?_
      exact ⟨_, rfl, congrArg Value.bool (dec_f (fun h9 => by have h8 := okD_I h9; omega)), (hS.sub [] (by decide) (by first | rfl | simp) (by simp))⟩
  · first | (replace hc54 := of_decide_eq_false hc54) | (replace hc54 := of_decide_eq_true (bnot_f hc54)) | (subst hc54) | (replace hc54 := bnot_f hc54; subst hc54) | (replace hc54 := bnot_f hc54) | skip
    try (have hc54x := hc54; simp only [okS, okI, okW, okP] at hc54x)
    refine seq_skip hF (wn_f hF rfl rfl rfl rfl) rfl rfl ?_
    clear hF; intro a hF
    refine seq_skip hF (wn_f hF rfl rfl rfl rfl) rfl rfl ?_
    clear hF; intro a hF
    refine seq_skip hF (wn_f hF rfl rfl rfl rfl) rfl rfl ?_
    clear hF; intro a hF
    refine seq_yl hF (wn_none rfl) rfl rfl (yl_pick (u := _) (v := undef) hF rfl rfl (fun h => by cases h) (fun _ => rfl)) ?_
    clear hF; intro a hF
    refine seq_yl hF (wn_none rfl) rfl rfl (yl_move hF rfl rfl) ?_
    clear hF; intro a hF
    refine seq_skip hF (wn_f hF rfl rfl rfl rfl) rfl rfl ?_
    clear hF; intro a hF
    refine seq_skip hF (wn_f hF rfl rfl rfl rfl) rfl rfl ?_
    clear hF; intro a hF
    refine seq_skip hF (wn_f hF rfl rfl rfl rfl) rfl rfl ?_
    clear hF; intro a hF
    refine seq_yl hF (wn_none rfl) rfl rfl (yl_pick (u := _) (v := undef) hF rfl rfl (fun h => by cases h) (fun _ => rfl)) ?_
    clear hF; intro a hF
    refine seq_yl hF (wn_none rfl) rfl rfl (yl_move hF rfl rfl) ?_
    clear hF; intro a hF
    refine seq_skip hF (wn_f hF rfl rfl rfl rfl) rfl rfl ?_
    clear hF; intro a hF
    refine seq_skip hF (wn_f hF rfl rfl rfl rfl) rfl rfl ?_
    clear hF; intro a hF
    refine seq_skip hF (wn_f hF rfl rfl rfl rfl) rfl rfl ?_
    clear hF; intro a hF
    refine seq_skip hF (wn_f hF rfl rfl rfl rfl) rfl rfl ?_
    clear hF; intro a hF
    refine seq_skip hF (wn_f hF rfl rfl rfl rfl) rfl rfl ?_
    clear hF; intro a hF
    refine seq_skip hF (wn_f hF rfl rfl rfl rfl) rfl rfl ?_
    clear hF; intro a hF
    refine seq_yl hF (wn_none rfl) rfl rfl (yl_pick (u := _) (v := undef) hF rfl rfl (fun h => by cases h) (fun _ => rfl)) ?_
    clear hF; intro a hF
    refine seq_yl hF (wn_none rfl) rfl rfl (yl_move hF rfl rfl) ?_
    clear hF; intro a hF
    refine seq_skip hF (wn_f hF rfl rfl rfl rfl) rfl rfl ?_
    clear hF; intro a hF
    refine seq_skip hF (wn_f hF rfl rfl rfl rfl) rfl rfl ?_
    clear hF; intro a hF
    refine seq_skip hF (wn_f hF rfl rfl rfl rfl) rfl rfl ?_
    clear hF; intro a hF
    refine seq_skip hF (wn_f hF rfl rfl rfl rfl) rfl rfl ?_
    clear hF; intro a hF
    refine seq_skip hF (wn_f hF rfl rfl rfl rfl) rfl rfl ?_
    clear hF; intro a hF
    refine seq_yl hF (wn_none rfl) rfl rfl (yl_pick (u := _) (v := undef) hF rfl rfl (fun h => by cases h) (fun _ => rfl)) ?_
    clear hF; intro a hF
    refine seq_yl hF (wn_none rfl) rfl rfl (yl_assign hF rfl rfl) ?_
    clear hF; intro a hF
    refine wpList_nil ?_
    refine then_n ?_
    refine wp_ret ?_
    refine ret_t hF rfl rfl ?_
    exact ⟨_, rfl, congrArg Value.bool (dec_f (fun h9 => by have h8 := okD_I h9; omega)), (hS.sub [] (by decide) (by first | rfl | simp) (by simp))⟩

set_option maxRecDepth 100000 in
theorem dValid2_any (st : ByteArray) (lv : Value) (L : List E39) (rm : Int) (w0 : World) (hv : Rd w0 2 lv (L).length (cells enc39 (L))) (hz : (st.size : Int) ≤ 9223372036854775807) (hL : L.length ≤ 1000000) :
    Fn Try.prog 27 #[.agg #[.string st, lv, .int .i64 rm]] w0 (fun v w' => v = .bool (decide (okD st L rm)) ∧ Sat w0 w' []) := by
  obtain ⟨Alv, clv, rfl⟩ := Rd.form hv
  refine c_enter (N := 55) (l := [_]) Try.func27 rfl rfl (fun a w hF hS => ?_)
  replace hS := hS.addRo hv
  refine c_seq ?_
  refine c_region ?_
  refine seq_wp (wn_none rfl) (wp_box (cs := #[_, _, _]) hF hS rfl rfl rfl rfl rfl ?_)
  clear hF hS; intro a w g58 hF hS
  refine seq_yl hF (wn_none rfl) rfl rfl (yl_assign hF rfl rfl) ?_
  clear hF; intro a hF
  refine wpList_nil ?_
  refine then_n ?_
  refine c_seq ?_
  refine c_seq ?_
  refine c_region ?_
  refine seq_yl hF (wn_none rfl) rfl rfl (yl_fieldAddr hF rfl rfl (fun w => by kernel_rfl : ∀ w, (Instr.fieldAt 25 (.pointer (some ⟨g58, 0, none⟩)) 0).run Try.prog w = .ok (.pointer (some ⟨g58, 0, none⟩)) w)) ?_
  clear hF; intro a hF
  refine seq_yl hF (wn_none rfl) rfl rfl (yl_load (fun _ h => h ▸ hS) hF rfl rfl 0 rfl ag9 rfl) ?_
  clear hF; intro a hF
  refine seq_wp (wn_none rfl) (wp_call (vs := [_]) hF rfl rfl rfl rfl cf48 (imValid2_any st _) ?_)
  clear hF; rintro _ w ⟨rfl, hS1⟩ a hF
  replace hS := hS.callB hS1 rfl; clear hS1
  refine seq_yl hF (wn_none rfl) rfl rfl (yl_un hF rfl rfl (fun _ => run_not)) ?_
  clear hF; intro a hF
  refine seq_yl hF (wn_none rfl) rfl rfl (yl_move hF rfl rfl) ?_
  clear hF; intro a hF
  refine fr_split hF (fun hc59 hF => ?_) (fun hc59 hF => ?_)
  · first | (replace hc59 := of_decide_eq_true hc59) | (replace hc59 := of_decide_eq_false (bnot_t hc59)) | (subst hc59) | (replace hc59 := bnot_t hc59; subst hc59) | (replace hc59 := bnot_t hc59) | skip
    try (have hc59x := hc59; simp only [okS, okI, okW, okP] at hc59x)
    refine seq_skip hF (wn_f hF rfl rfl rfl rfl) rfl rfl ?_
    clear hF; intro a hF
    refine seq_skip hF (wn_f hF rfl rfl rfl rfl) rfl rfl ?_
    clear hF; intro a hF
    refine seq_skip hF (wn_f hF rfl rfl rfl rfl) rfl rfl ?_
    clear hF; intro a hF
    refine seq_yl hF (wn_none rfl) rfl rfl (yl_pick (u := _) (v := undef) hF rfl rfl (fun _ => rfl) (fun h => by cases h)) ?_
    clear hF; intro a hF
    refine seq_yl hF (wn_none rfl) rfl rfl (yl_move hF rfl rfl) ?_
    clear hF; intro a hF
    refine seq_skip hF (wn_f hF rfl rfl rfl rfl) rfl rfl ?_
    clear hF; intro a hF
    refine seq_skip hF (wn_f hF rfl rfl rfl rfl) rfl rfl ?_
    clear hF; intro a hF
    refine seq_skip hF (wn_f hF rfl rfl rfl rfl) rfl rfl ?_
    clear hF; intro a hF
    refine seq_yl hF (wn_none rfl) rfl rfl (yl_pick (u := _) (v := undef) hF rfl rfl (fun _ => rfl) (fun h => by cases h)) ?_
    clear hF; intro a hF
    refine seq_yl hF (wn_none rfl) rfl rfl (yl_move hF rfl rfl) ?_
    clear hF; intro a hF
    refine seq_skip hF (wn_f hF rfl rfl rfl rfl) rfl rfl ?_
    clear hF; intro a hF
    refine seq_skip hF (wn_f hF rfl rfl rfl rfl) rfl rfl ?_
    clear hF; intro a hF
    refine seq_skip hF (wn_f hF rfl rfl rfl rfl) rfl rfl ?_
    clear hF; intro a hF
    refine seq_skip hF (wn_f hF rfl rfl rfl rfl) rfl rfl ?_
    clear hF; intro a hF
    refine seq_skip hF (wn_f hF rfl rfl rfl rfl) rfl rfl ?_
    clear hF; intro a hF
    refine seq_skip hF (wn_f hF rfl rfl rfl rfl) rfl rfl ?_
    clear hF; intro a hF
    refine seq_yl hF (wn_none rfl) rfl rfl (yl_pick (u := _) (v := undef) hF rfl rfl (fun _ => rfl) (fun h => by cases h)) ?_
    clear hF; intro a hF
    refine wpList_nil ?_
    refine then_n ?_
    refine c_cond_t hF rfl ?_
    refine c_seq ?_
    refine c_region ?_
    refine seq_yl hF (wn_none rfl) rfl rfl (yl_assign hF rfl rfl) ?_
    clear hF; intro a hF
    refine wpList_nil ?_
    refine then_n ?_
    refine wp_ret ?_
    refine then_r ?_
    refine ret_t hF rfl rfl ?_
    exact ⟨_, rfl, congrArg Value.bool (dec_f (fun h9 => by have h8 := okD_I h9; omega)), (hS.sub [] (by decide) (by first | rfl | simp) (by simp))⟩
  · first | (replace hc59 := of_decide_eq_false hc59) | (replace hc59 := of_decide_eq_true (bnot_f hc59)) | (subst hc59) | (replace hc59 := bnot_f hc59; subst hc59) | (replace hc59 := bnot_f hc59) | skip
    try (have hc59x := hc59; simp only [okS, okI, okW, okP] at hc59x)
    refine seq_yl hF (wn_t hF rfl rfl rfl rfl) rfl rfl (yl_fieldAddr hF rfl rfl (fun w => by kernel_rfl : ∀ w, (Instr.fieldAt 25 (.pointer (some ⟨g58, 0, none⟩)) 2).run Try.prog w = .ok (.pointer (some ⟨g58, 2, none⟩)) w)) ?_
    clear hF; intro a hF
    refine seq_yl hF (wn_t hF rfl rfl rfl rfl) rfl rfl (yl_load (fun _ h => h ▸ hS) hF rfl rfl 0 rfl ag3 rfl) ?_
    clear hF; intro a hF
    refine seq_yl hF (wn_t hF rfl rfl rfl rfl) rfl rfl (yl_bin hF rfl rfl rfl rfl (fun _ => run_lss)) ?_
    clear hF; intro a hF
    refine seq_yl hF (wn_none rfl) rfl rfl (yl_pick (u := _) (v := undef) hF rfl rfl (fun h => by cases h) (fun _ => rfl)) ?_
    clear hF; intro a hF
    refine seq_yl hF (wn_none rfl) rfl rfl (yl_move hF rfl rfl) ?_
    clear hF; intro a hF
    refine fr_split hF (fun hc60 hF => ?_) (fun hc60 hF => ?_)
    · first | (replace hc60 := of_decide_eq_true hc60) | (replace hc60 := of_decide_eq_false (bnot_t hc60)) | (subst hc60) | (replace hc60 := bnot_t hc60; subst hc60) | (replace hc60 := bnot_t hc60) | skip
      try (have hc60x := hc60; simp only [okS, okI, okW, okP] at hc60x)
      refine seq_skip hF (wn_f hF rfl rfl rfl rfl) rfl rfl ?_
      clear hF; intro a hF
      refine seq_skip hF (wn_f hF rfl rfl rfl rfl) rfl rfl ?_
      clear hF; intro a hF
      refine seq_skip hF (wn_f hF rfl rfl rfl rfl) rfl rfl ?_
      clear hF; intro a hF
      refine seq_yl hF (wn_none rfl) rfl rfl (yl_pick (u := _) (v := undef) hF rfl rfl (fun _ => rfl) (fun h => by cases h)) ?_
      clear hF; intro a hF
      refine seq_yl hF (wn_none rfl) rfl rfl (yl_move hF rfl rfl) ?_
      clear hF; intro a hF
      refine seq_skip hF (wn_f hF rfl rfl rfl rfl) rfl rfl ?_
      clear hF; intro a hF
      refine seq_skip hF (wn_f hF rfl rfl rfl rfl) rfl rfl ?_
      clear hF; intro a hF
      refine seq_skip hF (wn_f hF rfl rfl rfl rfl) rfl rfl ?_
      clear hF; intro a hF
      refine seq_skip hF (wn_f hF rfl rfl rfl rfl) rfl rfl ?_
      clear hF; intro a hF
      refine seq_skip hF (wn_f hF rfl rfl rfl rfl) rfl rfl ?_
      clear hF; intro a hF
      refine seq_skip hF (wn_f hF rfl rfl rfl rfl) rfl rfl ?_
      clear hF; intro a hF
      refine seq_yl hF (wn_none rfl) rfl rfl (yl_pick (u := _) (v := undef) hF rfl rfl (fun _ => rfl) (fun h => by cases h)) ?_
      clear hF; intro a hF
      refine wpList_nil ?_
      refine then_n ?_
      refine c_cond_t hF rfl ?_
      refine c_seq ?_
      refine c_region ?_
      refine seq_yl hF (wn_none rfl) rfl rfl (yl_assign hF rfl rfl) ?_
      clear hF; intro a hF
      refine wpList_nil ?_
      refine then_n ?_
      refine wp_ret ?_
      refine then_r ?_
      refine ret_t hF rfl rfl ?_
      exact ⟨_, rfl, congrArg Value.bool (dec_f (fun h9 => by have h8 := okD_I h9; omega)), (hS.sub [] (by decide) (by first | rfl | simp) (by simp))⟩
    · first | (replace hc60 := of_decide_eq_false hc60) | (replace hc60 := of_decide_eq_true (bnot_f hc60)) | (subst hc60) | (replace hc60 := bnot_f hc60; subst hc60) | (replace hc60 := bnot_f hc60) | skip
      try (have hc60x := hc60; simp only [okS, okI, okW, okP] at hc60x)
      refine seq_yl hF (wn_t hF rfl rfl rfl rfl) rfl rfl (yl_fieldAddr hF rfl rfl (fun w => by kernel_rfl : ∀ w, (Instr.fieldAt 25 (.pointer (some ⟨g58, 0, none⟩)) 2).run Try.prog w = .ok (.pointer (some ⟨g58, 2, none⟩)) w)) ?_
      clear hF; intro a hF
      refine seq_yl hF (wn_t hF rfl rfl rfl rfl) rfl rfl (yl_load (fun _ h => h ▸ hS) hF rfl rfl 0 rfl ag3 rfl) ?_
      clear hF; intro a hF
      refine seq_yl hF (wn_t hF rfl rfl rfl rfl) rfl rfl (yl_bin hF rfl rfl rfl rfl (fun _ => run_gtr)) ?_
      clear hF; intro a hF
      refine seq_yl hF (wn_none rfl) rfl rfl (yl_pick (u := _) (v := undef) hF rfl rfl (fun h => by cases h) (fun _ => rfl)) ?_
      clear hF; intro a hF
      refine seq_yl hF (wn_none rfl) rfl rfl (yl_move hF rfl rfl) ?_
      clear hF; intro a hF
      refine fr_split hF (fun hc61 hF => ?_) (fun hc61 hF => ?_)
      · first | (replace hc61 := of_decide_eq_true hc61) | (replace hc61 := of_decide_eq_false (bnot_t hc61)) | (subst hc61) | (replace hc61 := bnot_t hc61; subst hc61) | (replace hc61 := bnot_t hc61) | skip
        try (have hc61x := hc61; simp only [okS, okI, okW, okP] at hc61x)
        refine seq_skip hF (wn_f hF rfl rfl rfl rfl) rfl rfl ?_
        clear hF; intro a hF
        refine seq_skip hF (wn_f hF rfl rfl rfl rfl) rfl rfl ?_
        clear hF; intro a hF
        refine seq_skip hF (wn_f hF rfl rfl rfl rfl) rfl rfl ?_
        clear hF; intro a hF
        refine seq_skip hF (wn_f hF rfl rfl rfl rfl) rfl rfl ?_
        clear hF; intro a hF
        refine seq_skip hF (wn_f hF rfl rfl rfl rfl) rfl rfl ?_
        clear hF; intro a hF
        refine seq_skip hF (wn_f hF rfl rfl rfl rfl) rfl rfl ?_
        clear hF; intro a hF
        refine seq_yl hF (wn_none rfl) rfl rfl (yl_pick (u := _) (v := undef) hF rfl rfl (fun _ => rfl) (fun h => by cases h)) ?_
        clear hF; intro a hF
        refine wpList_nil ?_
        refine then_n ?_
        refine c_cond_t hF rfl ?_
        refine c_seq ?_
        refine c_region ?_
        refine seq_yl hF (wn_none rfl) rfl rfl (yl_assign hF rfl rfl) ?_
        clear hF; intro a hF
        refine wpList_nil ?_
        refine then_n ?_
        refine wp_ret ?_
        refine then_r ?_
        refine ret_t hF rfl rfl ?_
        exact ⟨_, rfl, congrArg Value.bool (dec_f (fun h9 => by have h8 := okD_I h9; omega)), (hS.sub [] (by decide) (by first | rfl | simp) (by simp))⟩
      · first | (replace hc61 := of_decide_eq_false hc61) | (replace hc61 := of_decide_eq_true (bnot_f hc61)) | (subst hc61) | (replace hc61 := bnot_f hc61; subst hc61) | (replace hc61 := bnot_f hc61) | skip
        try (have hc61x := hc61; simp only [okS, okI, okW, okP] at hc61x)
        refine seq_yl hF (wn_t hF rfl rfl rfl rfl) rfl rfl (yl_fieldAddr hF rfl rfl (fun w => by kernel_rfl : ∀ w, (Instr.fieldAt 25 (.pointer (some ⟨g58, 0, none⟩)) 1).run Try.prog w = .ok (.pointer (some ⟨g58, 1, none⟩)) w)) ?_
        clear hF; intro a hF
        refine seq_yl hF (wn_t hF rfl rfl rfl rfl) rfl rfl (yl_load (fun _ h => h ▸ hS) hF rfl rfl 0 rfl ag23 rfl) ?_
        clear hF; intro a hF
        refine seq_yl hF (wn_t hF rfl rfl rfl rfl) rfl rfl (yl_len hF rfl rfl (fun _ => run_lenRd sl23 (hS.rdRo 1 rfl))) ?_
        clear hF; intro a hF
        refine seq_yl hF (wn_t hF rfl rfl rfl rfl) rfl rfl (yl_fieldAddr hF rfl rfl (fun w => by kernel_rfl : ∀ w, (Instr.fieldAt 25 (.pointer (some ⟨g58, 0, none⟩)) 2).run Try.prog w = .ok (.pointer (some ⟨g58, 2, none⟩)) w)) ?_
        clear hF; intro a hF
        refine seq_yl hF (wn_t hF rfl rfl rfl rfl) rfl rfl (yl_load (fun _ h => h ▸ hS) hF rfl rfl 0 rfl ag3 rfl) ?_
        clear hF; intro a hF
        refine seq_yl hF (wn_t hF rfl rfl rfl rfl) rfl rfl (yl_bin hF rfl rfl rfl rfl (fun _ => run_gtr)) ?_
        clear hF; intro a hF
        refine seq_yl hF (wn_none rfl) rfl rfl (yl_pick (u := _) (v := undef) hF rfl rfl (fun h => by cases h) (fun _ => rfl)) ?_
        clear hF; intro a hF
        refine wpList_nil ?_
        refine then_n ?_
        refine c_cond hF rfl (fun hc62 => ?_) (fun hc62 => ?_)
        · first | (replace hc62 := of_decide_eq_true hc62) | (replace hc62 := of_decide_eq_false (bnot_t hc62)) | (subst hc62) | (replace hc62 := bnot_t hc62; subst hc62) | (replace hc62 := bnot_t hc62) | skip
          try (have hc62x := hc62; simp only [okS, okI, okW, okP] at hc62x)
          refine c_seq ?_
          refine c_region ?_
          refine seq_yl hF (wn_none rfl) rfl rfl (yl_assign hF rfl rfl) ?_
          clear hF; intro a hF
          refine wpList_nil ?_
          refine then_n ?_
          refine wp_ret ?_
          refine then_r ?_
          refine ret_t hF rfl rfl ?_
          exact ⟨_, rfl, congrArg Value.bool (dec_f (fun h9 => by have h8 := okD_I h9; omega)), (hS.sub [] (by decide) (by first | rfl | simp) (by simp))⟩
        · first | (replace hc62 := of_decide_eq_false hc62) | (replace hc62 := of_decide_eq_true (bnot_f hc62)) | (subst hc62) | (replace hc62 := bnot_f hc62; subst hc62) | (replace hc62 := bnot_f hc62) | skip
          try (have hc62x := hc62; simp only [okS, okI, okW, okP] at hc62x)
          refine wp_skip ?_
          refine then_n ?_
          refine c_seq ?_
          refine c_seq ?_
          refine c_region ?_
          refine seq_yl hF (wn_none rfl) rfl rfl (yl_assign hF rfl rfl) ?_
          clear hF; intro a hF
          refine wpList_nil ?_
          refine then_n ?_
          refine wp_block ?_
          refine c_loop (fun m a w => ∃ (k : Nat), m = L.length - k ∧ (k ≤ L.length ∧ ∀ p ∈ L.take k, okP (st.size : Int) p) ∧ Fr 55 a [(1, .pointer (some ⟨g58, 0, none⟩)), (3, .int .i64 ((k : Nat) : Int))] ∧ Sat w0 w (.box g58 25 #[.string st, .slice Alv (L).length clv, .int .i64 (rm)] :: .ro 2 (.slice Alv (L).length clv) (L).length (cells enc39 (L)) :: [])) (L.length - 0) ?_ ?_
          · exact ⟨0, rfl, ⟨Nat.zero_le _, by simp⟩, hF.to [1, 3] rfl, (hS.sub [0, 1] (by decide) (by first | rfl | simp) (by simp))⟩
          · clear hF hS; try clear hSS
            clear a w; rintro m a w ⟨k, rfl, hinv, hF, hS⟩
            have hk := hinv.1
            refine c_seq ?_
            refine c_seq ?_
            refine c_region ?_
            refine seq_yl hF (wn_none rfl) rfl rfl (yl_move hF rfl rfl) ?_
            clear hF; intro a hF
            refine seq_yl hF (wn_none rfl) rfl rfl (yl_fieldAddr hF rfl rfl (fun w => by kernel_rfl : ∀ w, (Instr.fieldAt 25 (.pointer (some ⟨g58, 0, none⟩)) 1).run Try.prog w = .ok (.pointer (some ⟨g58, 1, none⟩)) w)) ?_
            clear hF; intro a hF
            refine seq_yl hF (wn_none rfl) rfl rfl (yl_load (fun _ h => h ▸ hS) hF rfl rfl 0 rfl ag23 rfl) ?_
            clear hF; intro a hF
            refine seq_yl hF (wn_none rfl) rfl rfl (yl_len hF rfl rfl (fun _ => run_lenRd sl23 (hS.rdRo 1 rfl))) ?_
            clear hF; intro a hF
            refine seq_yl hF (wn_none rfl) rfl rfl (yl_bin hF rfl rfl rfl rfl (fun _ => run_lss)) ?_
            clear hF; intro a hF
            refine wpList_nil ?_
            refine then_n ?_
            refine c_cond hF rfl (fun hc63 => ?_) (fun hc63 => ?_)
            · first | (replace hc63 := of_decide_eq_true hc63) | (replace hc63 := of_decide_eq_false (bnot_t hc63)) | (subst hc63) | (replace hc63 := bnot_t hc63; subst hc63) | (replace hc63 := bnot_t hc63) | skip
              try (have hc63x := hc63; simp only [okS, okI, okW, okP] at hc63x)
              refine wp_skip ?_
              refine then_n ?_
              refine c_seq ?_
              refine wp_block ?_
              refine c_seq ?_
              refine c_region ?_
              refine seq_yl hF (wn_none rfl) rfl rfl (yl_fieldAddr hF rfl rfl (fun w => by kernel_rfl : ∀ w, (Instr.fieldAt 25 (.pointer (some ⟨g58, 0, none⟩)) 1).run Try.prog w = .ok (.pointer (some ⟨g58, 1, none⟩)) w)) ?_
              clear hF; intro a hF
              refine seq_yl hF (wn_none rfl) rfl rfl (yl_load (fun _ h => h ▸ hS) hF rfl rfl 0 rfl ag23 rfl) ?_
              clear hF; intro a hF
              refine seq_yl hF (wn_none rfl) rfl rfl (yl_move hF rfl rfl) ?_
              clear hF; intro a hF
              have hlt_hx64 : k < (L).length := by first | omega | (simp; done) | (simp; omega)
              obtain ⟨ad65, rfl⟩ := rd_some (hS.rdRo 1 rfl) hlt_hx64
              obtain ⟨x64, hx64⟩ := get_some hlt_hx64
              refine seq_yl hF (wn_none rfl) rfl rfl (yl_indexAddr hF rfl rfl rfl (fun _ => run_idx' sl23 sz39 (hS.rdRo 1 rfl) hlt_hx64)) ?_
              clear hF; intro a hF
              refine seq_yl hF (wn_none rfl) rfl rfl (yl_loadEl (rs := [.int .i64 (x64.f0), .string x64.f1]) hF rfl rfl ag39 sz39 rfl (fun _ h => rd_cells (enc := enc39) (by subst h; exact hS.rdRo 1 rfl) enc39_len hx64)) ?_
              clear hF; intro a hF
              refine seq_wp (wn_none rfl) (wp_alloc (cs := #[_, _]) hF hS rfl rfl rfl zr39 rfl ?_)
              clear hF hS; intro a w g66 hF hS
              refine seq_wp (wn_none rfl) (wp_store (cs' := #[_, _]) hF hS rfl rfl rfl rfl 0 rfl sz39 (by simp [Value.cells, Value.oneCell']) (by simp [Value.cells]) rfl ?_)
              clear hF hS; intro a w hF hS
              refine wpList_nil ?_
              refine then_n ?_
              refine c_seq ?_
              refine ha_startS hS [0, 1] 16 (by kernel_rfl) ?_; clear hS; intro w hS
              have hSS := hS.sub [0, 1] (by decide) rfl (by simp)
              refine ha_y 0 hF rfl rfl rfl (wn_none rfl) (.inr hSS) (yl_fieldAddr hF rfl rfl (fun w => by kernel_rfl : ∀ w, (Instr.fieldAt 39 (.pointer (some ⟨g66, 0, none⟩)) 0).run Try.prog w = .ok (.pointer (some ⟨g66, 0, none⟩)) w)) ?_
              clear hF; intro a hF
              refine ha_l 1 hF rfl rfl rfl (wn_none rfl) hSS (yl_load (fun _ h => h) hF rfl rfl 0 rfl ag3 rfl) ?_
              clear hF; intro a hF
              refine ha_y 2 hF rfl rfl rfl (wn_none rfl) (.inr hSS) (yl_bin hF rfl rfl rfl rfl (fun _ => run_lss)) ?_
              clear hF; intro a hF
              refine ha_y 3 hF rfl rfl rfl (wn_none rfl) (.inr hSS) (yl_move hF rfl rfl) ?_
              clear hF; intro a hF
              refine fr_split hF (fun hc67 hF => ?_) (fun hc67 hF => ?_)
              · first | (replace hc67 := of_decide_eq_true hc67) | (replace hc67 := of_decide_eq_false (bnot_t hc67)) | (subst hc67) | (replace hc67 := bnot_t hc67; subst hc67) | (replace hc67 := bnot_t hc67) | skip
                try (have hc67x := hc67; simp only [okS, okI, okW, okP] at hc67x)
                refine ha_s 4 hF rfl rfl rfl (wn_f hF rfl rfl rfl rfl) (.inr hSS) ?_
                clear hF; intro a hF
                refine ha_s 5 hF rfl rfl rfl (wn_f hF rfl rfl rfl rfl) (.inr hSS) ?_
                clear hF; intro a hF
                refine ha_s 6 hF rfl rfl rfl (wn_f hF rfl rfl rfl rfl) (.inr hSS) ?_
                clear hF; intro a hF
                refine ha_s 7 hF rfl rfl rfl (wn_f hF rfl rfl rfl rfl) (.inr hSS) ?_
                clear hF; intro a hF
                refine ha_s 8 hF rfl rfl rfl (wn_f hF rfl rfl rfl rfl) (.inr hSS) ?_
                clear hF; intro a hF
                refine ha_y 9 hF rfl rfl rfl (wn_none rfl) (.inr hSS) (yl_pick (u := _) (v := undef) hF rfl rfl (fun _ => rfl) (fun h => by cases h)) ?_
                clear hF; intro a hF
                refine ha_y 10 hF rfl rfl rfl (wn_none rfl) (.inr hSS) (yl_move hF rfl rfl) ?_
                clear hF; intro a hF
                refine ha_s 11 hF rfl rfl rfl (wn_f hF rfl rfl rfl rfl) (.inr hSS) ?_
                clear hF; intro a hF
                refine ha_s 12 hF rfl rfl rfl (wn_f hF rfl rfl rfl rfl) (.inr hSS) ?_
                clear hF; intro a hF
                refine ha_s 13 hF rfl rfl rfl (wn_f hF rfl rfl rfl rfl) (.inr hSS) ?_
                clear hF; intro a hF
                refine ha_s 14 hF rfl rfl rfl (wn_f hF rfl rfl rfl rfl) (.inr hSS) ?_
                clear hF; intro a hF
                refine ha_y 15 hF rfl rfl rfl (wn_none rfl) (.inr hSS) (yl_pick (u := _) (v := undef) hF rfl rfl (fun _ => rfl) (fun h => by cases h)) ?_
                clear hF; intro a hF
                refine ha_done (by kernel_rfl) ?_ _
                refine then_n ?_
                refine c_cond_t hF rfl ?_
                refine c_seq ?_
                refine c_region ?_
                refine seq_yl hF (wn_none rfl) rfl rfl (yl_assign hF rfl rfl) ?_
                clear hF; intro a hF
                refine wpList_nil ?_
                refine then_n ?_
                refine wp_ret ?_
                refine inb_r ?_
                refine then_r ?_
                refine then_r ?_
                refine inb_r ?_
                refine then_r ?_
                refine ret_t hF rfl rfl ?_
                exact ⟨_, rfl, congrArg Value.bool (valid_bad hx64 (fun h9 => by simp only [okP, okS, okI] at h9; omega)), (hS.sub [] (by decide) (by first | rfl | simp) (by simp))⟩
              · first | (replace hc67 := of_decide_eq_false hc67) | (replace hc67 := of_decide_eq_true (bnot_f hc67)) | (subst hc67) | (replace hc67 := bnot_f hc67; subst hc67) | (replace hc67 := bnot_f hc67) | skip
                try (have hc67x := hc67; simp only [okS, okI, okW, okP] at hc67x)
                refine ha_y 4 hF rfl rfl rfl (wn_t hF rfl rfl rfl rfl) (.inr hSS) (yl_fieldAddr hF rfl rfl (fun w => by kernel_rfl : ∀ w, (Instr.fieldAt 39 (.pointer (some ⟨g66, 0, none⟩)) 0).run Try.prog w = .ok (.pointer (some ⟨g66, 0, none⟩)) w)) ?_
                clear hF; intro a hF
                refine ha_l 5 hF rfl rfl rfl (wn_t hF rfl rfl rfl rfl) hSS (yl_load (fun _ h => h) hF rfl rfl 0 rfl ag3 rfl) ?_
                clear hF; intro a hF
                refine ha_l 6 hF rfl rfl rfl (wn_t hF rfl rfl rfl rfl) hSS (yl_loadK (rs := [_, _, _]) (fun _ h => h) hF rfl rfl 1 rfl ag25 sz25 rfl rfl) ?_
                clear hF; intro a hF
                refine ha_one 7 (by kernel_rfl) rfl (wn_t hF rfl rfl rfl rfl) (wp_call (vs := [_]) hF rfl rfl rfl rfl cf13 (secs_any st _ _ _ (by omega)) ?_)
                clear hF; rintro _ w ⟨rfl, hS1⟩ a hF
                replace hS := hS.callB hS1 rfl; clear hS1
                replace hSS := hS.sub [0, 1] (by decide) rfl (by simp)
                refine ⟨.inr hSS, ?_⟩
                refine ha_y 8 hF rfl rfl rfl (wn_t hF rfl rfl rfl rfl) (.inr hSS) (yl_bin hF rfl rfl rfl rfl (fun _ => run_geq)) ?_
                clear hF; intro a hF
                refine ha_y 9 hF rfl rfl rfl (wn_none rfl) (.inr hSS) (yl_pick (u := _) (v := undef) hF rfl rfl (fun h => by cases h) (fun _ => rfl)) ?_
                clear hF; intro a hF
                refine ha_y 10 hF rfl rfl rfl (wn_none rfl) (.inr hSS) (yl_move hF rfl rfl) ?_
                clear hF; intro a hF
                refine fr_split hF (fun hc68 hF => ?_) (fun hc68 hF => ?_)
                · first | (replace hc68 := of_decide_eq_true hc68) | (replace hc68 := of_decide_eq_false (bnot_t hc68)) | (subst hc68) | (replace hc68 := bnot_t hc68; subst hc68) | (replace hc68 := bnot_t hc68) | skip
                  try (have hc68x := hc68; simp only [okS, okI, okW, okP] at hc68x)
                  refine ha_s 11 hF rfl rfl rfl (wn_f hF rfl rfl rfl rfl) (.inr hSS) ?_
                  clear hF; intro a hF
                  refine ha_s 12 hF rfl rfl rfl (wn_f hF rfl rfl rfl rfl) (.inr hSS) ?_
                  clear hF; intro a hF
                  refine ha_s 13 hF rfl rfl rfl (wn_f hF rfl rfl rfl rfl) (.inr hSS) ?_
                  clear hF; intro a hF
                  refine ha_s 14 hF rfl rfl rfl (wn_f hF rfl rfl rfl rfl) (.inr hSS) ?_
                  clear hF; intro a hF
                  refine ha_y 15 hF rfl rfl rfl (wn_none rfl) (.inr hSS) (yl_pick (u := _) (v := undef) hF rfl rfl (fun _ => rfl) (fun h => by cases h)) ?_
                  clear hF; intro a hF
                  refine ha_done (by kernel_rfl) ?_ _
                  refine then_n ?_
                  refine c_cond_t hF rfl ?_
                  refine c_seq ?_
                  refine c_region ?_
                  refine seq_yl hF (wn_none rfl) rfl rfl (yl_assign hF rfl rfl) ?_
                  clear hF; intro a hF
                  refine wpList_nil ?_
                  refine then_n ?_
                  refine wp_ret ?_
                  refine inb_r ?_
                  refine then_r ?_
                  refine then_r ?_
                  refine inb_r ?_
                  refine then_r ?_
                  refine ret_t hF rfl rfl ?_
                  exact ⟨_, rfl, congrArg Value.bool (valid_bad hx64 (fun h9 => by simp only [okP, okS, okI] at h9; omega)), (hS.sub [] (by decide) (by first | rfl | simp) (by simp))⟩
                · first | (replace hc68 := of_decide_eq_false hc68) | (replace hc68 := of_decide_eq_true (bnot_f hc68)) | (subst hc68) | (replace hc68 := bnot_f hc68; subst hc68) | (replace hc68 := bnot_f hc68) | skip
                  try (have hc68x := hc68; simp only [okS, okI, okW, okP] at hc68x)
                  refine ha_y 11 hF rfl rfl rfl (wn_t hF rfl rfl rfl rfl) (.inr hSS) (yl_fieldAddr hF rfl rfl (fun w => by kernel_rfl : ∀ w, (Instr.fieldAt 39 (.pointer (some ⟨g66, 0, none⟩)) 1).run Try.prog w = .ok (.pointer (some ⟨g66, 1, none⟩)) w)) ?_
                  clear hF; intro a hF
                  refine ha_l 12 hF rfl rfl rfl (wn_t hF rfl rfl rfl rfl) hSS (yl_load (fun _ h => h) hF rfl rfl 0 rfl ag9 rfl) ?_
                  clear hF; intro a hF
                  refine ha_y 13 hF rfl rfl rfl (wn_t hF rfl rfl rfl rfl) (.inr hSS) (yl_len hF rfl rfl (fun _ => run_lenStr Try.underlying9)) ?_
                  clear hF; intro a hF
                  refine ha_y 14 hF rfl rfl rfl (wn_t hF rfl rfl rfl rfl) (.inr hSS) (yl_bin hF rfl rfl rfl rfl (fun _ => run_neq)) ?_
                  clear hF; intro a hF
                  refine ha_y 15 hF rfl rfl rfl (wn_none rfl) (.inr hSS) (yl_pick (u := _) (v := undef) hF rfl rfl (fun h => by cases h) (fun _ => rfl)) ?_
                  clear hF; intro a hF
                  refine ha_done (by kernel_rfl) ?_ _
                  refine then_n ?_
                  refine c_cond hF rfl (fun hc69 => ?_) (fun hc69 => ?_)
                  · first | (replace hc69 := of_decide_eq_true hc69) | (replace hc69 := of_decide_eq_false (bnot_t hc69)) | (subst hc69) | (replace hc69 := bnot_t hc69; subst hc69) | (replace hc69 := bnot_t hc69) | skip
                    try (have hc69x := hc69; simp only [okS, okI, okW, okP] at hc69x)
                    refine c_seq ?_
                    refine c_region ?_
                    refine seq_yl hF (wn_none rfl) rfl rfl (yl_assign hF rfl rfl) ?_
                    clear hF; intro a hF
                    refine wpList_nil ?_
                    refine then_n ?_
                    refine wp_ret ?_
                    refine inb_r ?_
                    refine then_r ?_
                    refine then_r ?_
                    refine inb_r ?_
                    refine then_r ?_
                    refine ret_t hF rfl rfl ?_
                    exact ⟨_, rfl, congrArg Value.bool (valid_bad hx64 (fun h9 => by simp only [okP, okS, okI] at h9; omega)), (hS.sub [] (by decide) (by first | rfl | simp) (by simp))⟩
                  · first | (replace hc69 := of_decide_eq_false hc69) | (replace hc69 := of_decide_eq_true (bnot_f hc69)) | (subst hc69) | (replace hc69 := bnot_f hc69; subst hc69) | (replace hc69 := bnot_f hc69) | skip
                    try (have hc69x := hc69; simp only [okS, okI, okW, okP] at hc69x)
                    refine wp_skip ?_
                    refine inb_n ?_
                    refine then_n ?_
                    refine c_region ?_
                    refine seq_yl hF (wn_none rfl) rfl rfl (yl_move hF rfl rfl) ?_
                    clear hF; intro a hF
                    refine seq_yl hF (wn_none rfl) rfl rfl (yl_bin hF rfl rfl rfl rfl (fun _ => run_inc (by omega))) ?_
                    clear hF; intro a hF
                    refine seq_yl hF (wn_none rfl) rfl rfl (yl_assign hF rfl rfl) ?_
                    clear hF; intro a hF
                    refine wpList_nil ?_
                    refine then_n ?_
                    exact ⟨_, (by omega), k + 1, rfl, ⟨by omega, all_takeP hinv.2 hx64 (by unfold okP okS okI; omega)⟩, hF.to [1, 3] rfl, (hS.sub [1, 2] (by decide) (by first | rfl | simp) (by simp))⟩
            · first | (replace hc63 := of_decide_eq_false hc63) | (replace hc63 := of_decide_eq_true (bnot_f hc63)) | (subst hc63) | (replace hc63 := bnot_f hc63; subst hc63) | (replace hc63 := bnot_f hc63) | skip
              try (have hc63x := hc63; simp only [okS, okI, okW, okP] at hc63x)
              refine wp_exit ?_
              refine then_x ?_
              refine then_x ?_
              refine inb_x ?_
              refine then_n ?_
              refine c_seq ?_
              refine c_region ?_
              refine seq_yl hF (wn_none rfl) rfl rfl (yl_assign hF rfl rfl) ?_
              clear hF; intro a hF
              refine wpList_nil ?_
              refine then_n ?_
              refine wp_ret ?_
              refine ret_t hF rfl rfl ?_
              exact ⟨_, rfl, congrArg Value.bool (valid_all (by assumption) (by omega) (by omega) (by omega) hinv.2 (by omega)), (hS.sub [] (by decide) (by first | rfl | simp) (by simp))⟩

end Go.Proofs.Yteidhjdkaaddgaa

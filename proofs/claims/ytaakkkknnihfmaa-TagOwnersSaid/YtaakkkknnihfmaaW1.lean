/- walks, printed by wip/gen -/
import Derived.Test.YtaakkkknnihfmaaF
import Derived.Test.YtaakkkknnihfmaaP
namespace Go.Proofs.Ytaakkkknnihfmaa
open Go.RowKit
set_option linter.unusedVariables false
set_option linter.unusedSimpArgs false

set_option maxRecDepth 100000 in
theorem round_any (n m : Int) (w0 : World) (hm : m ≤ 9223372036854775807) :
    Fn Try.prog 8 #[.int .i64 n, .int .i64 m] w0 (fun v w' => v = .int .i64 (rnd n m) ∧ Sat w0 w' []) := by
  refine c_enter (N := 13) (l := [_, _]) Try.func8 rfl rfl (fun a w hF hS => ?_)
  refine c_seq ?_
  refine c_region ?_
  refine seq_yl hF (wn_none rfl) rfl rfl (yl_assign hF rfl rfl) ?_
  clear hF; intro a hF
  refine wpList_nil ?_
  refine then_n ?_
  refine c_seq ?_
  refine c_seq ?_
  refine c_region ?_
  refine seq_yl hF (wn_none rfl) rfl rfl (yl_move hF rfl rfl) ?_
  clear hF; intro a hF
  refine seq_yl hF (wn_none rfl) rfl rfl (yl_bin hF rfl rfl rfl rfl (fun _ => run_lss)) ?_
  clear hF; intro a hF
  refine wpList_nil ?_
  refine then_n ?_
  refine c_cond hF rfl (fun hc1 => ?_) (fun hc1 => ?_)
  · first | (replace hc1 := of_decide_eq_true hc1) | (replace hc1 := of_decide_eq_false (bnot_t hc1)) | (subst hc1) | (replace hc1 := bnot_t hc1; subst hc1) | (replace hc1 := bnot_t hc1) | skip
    refine c_seq ?_
    refine c_region ?_
    refine seq_yl hF (wn_none rfl) rfl rfl (yl_assign hF rfl rfl) ?_
    clear hF; intro a hF
    refine wpList_nil ?_
    refine then_n ?_
    refine wp_ret ?_
    refine then_r ?_
    refine ret_t hF rfl rfl ?_
    exact ⟨_, rfl, congrArg (Value.int .i64) (by first | exact (if_pos (by omega)).symm | exact round_eq (by omega) hm), (hS.sub [] (by decide) (by first | rfl | simp) (by simp))⟩
  · first | (replace hc1 := of_decide_eq_false hc1) | (replace hc1 := of_decide_eq_true (bnot_f hc1)) | (subst hc1) | (replace hc1 := bnot_f hc1; subst hc1) | (replace hc1 := bnot_f hc1) | skip
    refine wp_skip ?_
    refine then_n ?_
    refine c_seq ?_
    refine c_region ?_
    refine seq_yl hF (wn_none rfl) rfl rfl (yl_move hF rfl rfl) ?_
    clear hF; intro a hF
    refine seq_yl hF (wn_none rfl) rfl rfl (yl_conv hF rfl rfl (fun _ => run_cnv Try.underlying3 Try.underlying42)) ?_
    clear hF; intro a hF
    refine seq_yl hF (wn_none rfl) rfl rfl (yl_move hF rfl rfl) ?_
    clear hF; intro a hF
    refine seq_yl hF (wn_none rfl) rfl rfl (yl_conv hF rfl rfl (fun _ => run_cnv Try.underlying3 Try.underlying42)) ?_
    clear hF; intro a hF
    refine seq_yl hF (wn_none rfl) rfl rfl (yl_bin hF rfl rfl rfl rfl (fun _ => run_rem (by rw [wrap_u64]; omega))) ?_
    clear hF; intro a hF
    refine seq_yl hF (wn_none rfl) rfl rfl (yl_conv hF rfl rfl (fun _ => run_cnv Try.underlying42 Try.underlying3)) ?_
    clear hF; intro a hF
    refine seq_yl hF (wn_none rfl) rfl rfl (yl_assign hF rfl rfl) ?_
    clear hF; intro a hF
    refine wpList_nil ?_
    refine then_n ?_
    refine wp_ret ?_
    refine ret_t hF rfl rfl ?_
    exact ⟨_, rfl, congrArg (Value.int .i64) (by first | exact (if_pos (by omega)).symm | exact round_eq (by omega) hm), (hS.sub [] (by decide) (by first | rfl | simp) (by simp))⟩

set_option maxRecDepth 100000 in
theorem owner_any (n : Int) (w0 : World) :
    Fn Try.prog 24 #[.int .i64 n] w0 (fun v w' => v = .bool (decide (0 ≤ n ∧ n ≤ 4)) ∧ Sat w0 w' []) := by
  refine c_enter (N := 9) (l := [_]) Try.func24 rfl rfl (fun a w hF hS => ?_)
  refine c_seq ?_
  refine c_region ?_
  refine seq_yl hF (wn_none rfl) rfl rfl (yl_assign hF rfl rfl) ?_
  clear hF; intro a hF
  refine wpList_nil ?_
  refine then_n ?_
  refine c_seq ?_
  refine c_region ?_
  refine seq_yl hF (wn_none rfl) rfl rfl (yl_move hF rfl rfl) ?_
  clear hF; intro a hF
  refine seq_yl hF (wn_none rfl) rfl rfl (yl_bin hF rfl rfl rfl rfl (fun _ => run_geq)) ?_
  clear hF; intro a hF
  refine seq_yl hF (wn_none rfl) rfl rfl (yl_move hF rfl rfl) ?_
  clear hF; intro a hF
  refine fr_split hF (fun hc2 hF => ?_) (fun hc2 hF => ?_)
  · first | (replace hc2 := of_decide_eq_true hc2) | (replace hc2 := of_decide_eq_false (bnot_t hc2)) | (subst hc2) | (replace hc2 := bnot_t hc2; subst hc2) | (replace hc2 := bnot_t hc2) | skip
    refine seq_yl hF (wn_t hF rfl rfl rfl rfl) rfl rfl (yl_move hF rfl rfl) ?_
    clear hF; intro a hF
    refine seq_yl hF (wn_t hF rfl rfl rfl rfl) rfl rfl (yl_bin hF rfl rfl rfl rfl (fun _ => run_leq)) ?_
    clear hF; intro a hF
    refine seq_yl hF (wn_none rfl) rfl rfl (yl_pick (u := _) (v := undef) hF rfl rfl (fun _ => rfl) (fun h => by cases h)) ?_
    clear hF; intro a hF
    refine seq_yl hF (wn_none rfl) rfl rfl (yl_assign hF rfl rfl) ?_
    clear hF; intro a hF
    refine wpList_nil ?_
    refine then_n ?_
    refine wp_ret ?_
    refine ret_t hF rfl rfl ?_
    exact ⟨_, rfl, congrArg Value.bool (dec_d (by constructor <;> intro _ <;> omega)), (hS.sub [] (by decide) (by first | rfl | simp) (by simp))⟩
  · first | (replace hc2 := of_decide_eq_false hc2) | (replace hc2 := of_decide_eq_true (bnot_f hc2)) | (subst hc2) | (replace hc2 := bnot_f hc2; subst hc2) | (replace hc2 := bnot_f hc2) | skip
    refine seq_skip hF (wn_f hF rfl rfl rfl rfl) rfl rfl ?_
    clear hF; intro a hF
    refine seq_skip hF (wn_f hF rfl rfl rfl rfl) rfl rfl ?_
    clear hF; intro a hF
    refine seq_yl hF (wn_none rfl) rfl rfl (yl_pick (u := _) (v := undef) hF rfl rfl (fun h => by cases h) (fun _ => rfl)) ?_
    clear hF; intro a hF
    refine seq_yl hF (wn_none rfl) rfl rfl (yl_assign hF rfl rfl) ?_
    clear hF; intro a hF
    refine wpList_nil ?_
    refine then_n ?_
    refine wp_ret ?_
    refine ret_t hF rfl rfl ?_
    exact ⟨_, rfl, congrArg Value.bool (dec_f (by omega)), (hS.sub [] (by decide) (by first | rfl | simp) (by simp))⟩

set_option maxRecDepth 100000 in
theorem clone_any (v : Value) (L : List Int) (w0 : World) (h : Rd w0 1 v (L).length (cells encI (L))) (hn : L.length ≤ 1000000) :
    Fn Try.prog 23 #[v] w0 (fun v w' => ∃ v1, v = v1 ∧ Sat w0 w' [.row 3 1 v1 (L).length (cells encI (L))]) := by
  obtain ⟨Av, cv, rfl⟩ := Rd.form h
  refine c_enter (N := 8) (l := [_]) Try.func23 rfl rfl (fun a w hF hS => ?_)
  replace hS := hS.addRo h
  refine c_seq ?_
  refine c_region ?_
  refine seq_yl hF (wn_none rfl) rfl rfl (yl_assign hF rfl rfl) ?_
  clear hF; intro a hF
  refine wpList_nil ?_
  refine then_n ?_
  refine c_seq ?_
  refine c_seq ?_
  refine c_region ?_
  refine seq_yl hF (wn_none rfl) rfl rfl (yl_move hF rfl rfl) ?_
  clear hF; intro a hF
  refine seq_yl hF (wn_none rfl) rfl rfl (yl_bin hF rfl rfl rfl rfl (fun _ => run_slnil sl22)) ?_
  clear hF; intro a hF
  refine wpList_nil ?_
  refine then_n ?_
  refine c_cond hF rfl (fun hc3 => ?_) (fun hc3 => ?_)
  · first | (replace hc3 := of_decide_eq_true hc3) | (replace hc3 := of_decide_eq_false (bnot_t hc3)) | (subst hc3) | (replace hc3 := bnot_t hc3; subst hc3) | (replace hc3 := bnot_t hc3) | skip
    refine c_seq ?_
    refine c_region ?_
    refine seq_yl hF (wn_none rfl) rfl rfl (yl_assign hF rfl rfl) ?_
    clear hF; intro a hF
    refine wpList_nil ?_
    refine then_n ?_
    refine wp_ret ?_
    refine then_r ?_
    refine ret_t hF rfl rfl ?_
    obtain rfl := rd_none h (by assumption)
    replace hS := hS.addNil 3 1
    exact ⟨_, rfl, _, rfl, (hS.sub [0] (by decide) (by first | rfl | simp) (by simp))⟩
  · first | (replace hc3 := of_decide_eq_false hc3) | (replace hc3 := of_decide_eq_true (bnot_f hc3)) | (subst hc3) | (replace hc3 := bnot_f hc3; subst hc3) | (replace hc3 := bnot_f hc3) | skip
    refine wp_skip ?_
    refine then_n ?_
    refine c_seq ?_
    refine c_region ?_
    refine seq_wp (wn_none rfl) (wp_bslice (parts := []) (vs := []) (enc := encI) (e := 3) (size := 1) (cs := #[]) hF hS rfl rfl rfl rfl ([] : List Int) (fun w => by kernel_rfl) rfl rfl rfl (by decide) ?_)
    clear hF hS; intro a w v5 hF hS
    obtain ⟨Av5, cv5, rfl⟩ := hS.form 0 rfl
    refine seq_yl hF (wn_none rfl) rfl rfl (yl_move hF rfl rfl) ?_
    clear hF; intro a hF
    refine seq_wp (wn_none rfl) (wp_app (enc := encI) hF hS rfl rfl rfl rfl rfl 0 rfl sl22 inf3 rfl (by decide) (hS.rdRo 1 rfl) encI_one (by decide) (by first | omega | (simp only [List.length_append, List.length_cons, List.length_nil]; omega) | (simp; omega)) ?_)
    clear hF hS; intro a w v6 hF hS
    obtain ⟨Av6, cv6, rfl⟩ := hS.form 0 rfl
    refine seq_yl hF (wn_none rfl) rfl rfl (yl_assign hF rfl rfl) ?_
    clear hF; intro a hF
    refine wpList_nil ?_
    refine then_n ?_
    refine wp_ret ?_
    refine ret_t hF rfl rfl ?_
    exact ⟨_, rfl, _, rfl, (hS.sub [0] (by decide) (by first | rfl | simp) (by simp))⟩

set_option maxRecDepth 100000 in
theorem indexF_any {k : FuncId} {caps : List Value} {p : Int → Bool} {H : List Chunk} (w0 w : World) (v : Value) (L : List Int) (hcf : ∀ (args : Array Value) (w : World), (callFunc k args).run Try.prog w = .ok (.enter k args) w) (hp : PredOn Try.prog w0 H k caps (fun x : Int => .int .i64 x) p) (hr : ∀ w, Sat w0 w H → Rd w 1 v (L).length (cells encI (L))) (hS : Sat w0 w H) (hL : L.length ≤ 1000000) :
    Fn Try.prog 34 #[v, .func (.func k) #[] caps.toArray] w (fun v w' => v = .int .i64 (idxF p L) ∧ Sat w0 w' H) := by
  obtain ⟨Av, cv, rfl⟩ := (hr _ hS).form
  refine c_enterS (N := 19) (l := [_, _]) Try.func34 rfl rfl (fun a hF => ?_)
  refine c_seq ?_
  refine c_region ?_
  refine seq_yl hF (wn_none rfl) rfl rfl (yl_assign hF rfl rfl) ?_
  clear hF; intro a hF
  refine wpList_nil ?_
  refine then_n ?_
  refine c_seq ?_
  refine c_seq ?_
  refine c_region ?_
  refine seq_yl hF (wn_none rfl) rfl rfl (yl_move hF rfl rfl) ?_
  clear hF; intro a hF
  refine seq_yl hF (wn_none rfl) rfl rfl (yl_len hF rfl rfl (fun _ => run_lenRd sl22 (hr _ hS))) ?_
  clear hF; intro a hF
  refine seq_yl hF (wn_none rfl) rfl rfl (yl_move hF rfl rfl) ?_
  clear hF; intro a hF
  refine wpList_nil ?_
  refine then_n ?_
  refine wp_block ?_
  refine c_loop (fun m a w => ∃ (k0 : Nat), m = L.length - k0 ∧ (k0 ≤ L.length ∧ ∀ x ∈ L.take k0, p x = false) ∧ Fr 19 a [(0, .slice Av L.length cv), (1, .func (.func k) #[] caps.toArray), (7, .int .i64 (((L).length : Nat) : Int)), (8, .int .i64 ((k0 : Nat) : Int))] ∧ Sat w0 w (H)) (L.length - 0) ?_ ?_
  · exact ⟨0, rfl, ⟨Nat.zero_le _, by simp⟩, hF.to [0, 1, 7, 8] rfl, (hS.subT 0 [] (by decide) (by first | rfl | simp) (by simp) (by simp))⟩
  · clear hF hS; try clear hSS
    clear a w; rintro m a w ⟨k0, rfl, hinv, hF, hS⟩
    have hk := hinv.1
    refine c_seq ?_
    refine c_region ?_
    refine seq_yl hF (wn_none rfl) rfl rfl (yl_bin hF rfl rfl rfl rfl (fun _ => run_lss)) ?_
    clear hF; intro a hF
    refine wpList_nil ?_
    refine then_n ?_
    refine c_seq ?_
    refine c_cond hF rfl (fun hc7 => ?_) (fun hc7 => ?_)
    · first | (replace hc7 := of_decide_eq_true hc7) | (replace hc7 := of_decide_eq_false (bnot_t hc7)) | (subst hc7) | (replace hc7 := bnot_t hc7; subst hc7) | (replace hc7 := bnot_t hc7) | skip
      refine wp_skip ?_
      refine then_n ?_
      refine c_seq ?_
      refine wp_block ?_
      refine c_seq ?_
      refine c_region ?_
      refine seq_yl hF (wn_none rfl) rfl rfl (yl_move hF rfl rfl) ?_
      clear hF; intro a hF
      refine seq_yl hF (wn_none rfl) rfl rfl (yl_assign hF rfl rfl) ?_
      clear hF; intro a hF
      refine wpList_nil ?_
      refine then_n ?_
      refine c_seq ?_
      refine c_region ?_
      refine seq_yl hF (wn_none rfl) rfl rfl (yl_move hF rfl rfl) ?_
      clear hF; intro a hF
      refine seq_yl hF (wn_none rfl) rfl rfl (yl_move hF rfl rfl) ?_
      clear hF; intro a hF
      refine seq_yl hF (wn_none rfl) rfl rfl (yl_move hF rfl rfl) ?_
      clear hF; intro a hF
      have hlt_hx8 : k0 < (L).length := by first | omega | (simp; done) | (simp; omega)
      obtain ⟨ad9, rfl⟩ := rd_some (hr _ hS) hlt_hx8
      obtain ⟨x8, hx8⟩ := get_some hlt_hx8
      refine seq_yl hF (wn_none rfl) rfl rfl (yl_indexAddr hF rfl rfl rfl (fun _ => run_idx' sl22 sz3 (hr _ hS) hlt_hx8)) ?_
      clear hF; intro a hF
      refine seq_yl hF (wn_none rfl) rfl rfl (yl_loadAt hF rfl rfl ag3 (fun _ h => rd_cell0 (enc := encI) (by subst h; exact hr _ hS) encI_len hx8 rfl rfl)) ?_
      clear hF; intro a hF
      refine seq_wp (wn_none rfl) (wp_callC (f := k) (vs := [_]) (caps := caps) hF rfl rfl rfl rfl rfl hcf (hp (x8) _ hS) ?_)
      clear hF hS; rintro _ w ⟨rfl, hS⟩ a hF
      refine wpList_nil ?_
      refine then_n ?_
      refine c_cond hF rfl (fun hc10 => ?_) (fun hc10 => ?_)
      · first | (replace hc10 := of_decide_eq_true hc10) | (replace hc10 := of_decide_eq_false (bnot_t hc10)) | (subst hc10) | (replace hc10 := bnot_t hc10; subst hc10) | (replace hc10 := bnot_t hc10) | skip
        refine c_seq ?_
        refine c_region ?_
        refine seq_yl hF (wn_none rfl) rfl rfl (yl_move hF rfl rfl) ?_
        clear hF; intro a hF
        refine seq_yl hF (wn_none rfl) rfl rfl (yl_assign hF rfl rfl) ?_
        clear hF; intro a hF
        refine wpList_nil ?_
        refine then_n ?_
        refine wp_ret ?_
        refine inb_r ?_
        refine then_r ?_
        refine then_r ?_
        refine inb_r ?_
        refine then_r ?_
        refine ret_t hF rfl rfl ?_
        exact ⟨_, rfl, congrArg (Value.int .i64) (idx_hit hx8 (by assumption) hinv.2), hS⟩
      · first | (replace hc10 := of_decide_eq_false hc10) | (replace hc10 := of_decide_eq_true (bnot_f hc10)) | (subst hc10) | (replace hc10 := bnot_f hc10; subst hc10) | (replace hc10 := bnot_f hc10) | skip
        refine wp_skip ?_
        refine inb_n ?_
        refine then_n ?_
        refine c_region ?_
        refine seq_yl hF (wn_none rfl) rfl rfl (yl_bin hF rfl rfl rfl rfl (fun _ => run_inc (by omega))) ?_
        clear hF; intro a hF
        refine seq_yl hF (wn_none rfl) rfl rfl (yl_move hF rfl rfl) ?_
        clear hF; intro a hF
        refine wpList_nil ?_
        refine then_n ?_
        exact ⟨_, (by omega), k0 + 1, rfl, ⟨by omega, all_not_step hx8 (by assumption) hinv.2⟩, hF.to [0, 1, 7, 8] rfl, (hS.subT 0 [] (by decide) (by first | rfl | simp) (by simp) (by simp))⟩
    · first | (replace hc7 := of_decide_eq_false hc7) | (replace hc7 := of_decide_eq_true (bnot_f hc7)) | (subst hc7) | (replace hc7 := bnot_f hc7; subst hc7) | (replace hc7 := bnot_f hc7) | skip
      refine wp_exit ?_
      refine then_x ?_
      refine then_x ?_
      refine inb_x ?_
      refine then_n ?_
      refine c_seq ?_
      refine c_region ?_
      refine seq_yl hF (wn_none rfl) rfl rfl (yl_assign hF rfl rfl) ?_
      clear hF; intro a hF
      refine wpList_nil ?_
      refine then_n ?_
      refine wp_ret ?_
      refine ret_t hF rfl rfl ?_
      exact ⟨_, rfl, congrArg (Value.int .i64) (idx_none hinv.2 (by omega)), hS⟩

set_option maxRecDepth 100000 in
theorem containsF_any {k : FuncId} {caps : List Value} {p : Int → Bool} {H : List Chunk} (w0 w : World) (v : Value) (L : List Int) (hcf : ∀ (args : Array Value) (w : World), (callFunc k args).run Try.prog w = .ok (.enter k args) w) (hp : PredOn Try.prog w0 H k caps (fun x : Int => .int .i64 x) p) (hr : ∀ w, Sat w0 w H → Rd w 1 v (L).length (cells encI (L))) (hS : Sat w0 w H) (hL : L.length ≤ 1000000) :
    Fn Try.prog 29 #[v, .func (.func k) #[] caps.toArray] w (fun v w' => v = .bool (L.any p) ∧ Sat w0 w' H) := by
  obtain ⟨Av, cv, rfl⟩ := (hr _ hS).form
  refine c_enterS (N := 9) (l := [_, _]) Try.func29 rfl rfl (fun a hF => ?_)
  refine c_seq ?_
  refine c_region ?_
  refine seq_yl hF (wn_none rfl) rfl rfl (yl_assign hF rfl rfl) ?_
  clear hF; intro a hF
  refine wpList_nil ?_
  refine then_n ?_
  refine c_seq ?_
  refine c_region ?_
  refine seq_yl hF (wn_none rfl) rfl rfl (yl_move hF rfl rfl) ?_
  clear hF; intro a hF
  refine seq_yl hF (wn_none rfl) rfl rfl (yl_move hF rfl rfl) ?_
  clear hF; intro a hF
  refine seq_wp (wn_none rfl) (wp_call (vs := [_, _]) hF rfl rfl rfl rfl cf34 (indexF_any (k := k) (caps := caps) (p := p) _ _ _ L hcf hp hr hS hL) ?_)
  clear hF hS; rintro _ w ⟨rfl, hS⟩ a hF
  refine seq_yl hF (wn_none rfl) rfl rfl (yl_bin hF rfl rfl rfl rfl (fun _ => run_geq)) ?_
  clear hF; intro a hF
  refine seq_yl hF (wn_none rfl) rfl rfl (yl_assign hF rfl rfl) ?_
  clear hF; intro a hF
  refine wpList_nil ?_
  refine then_n ?_
  refine wp_ret ?_
  refine ret_t hF rfl rfl ?_
  exact ⟨_, rfl, congrArg Value.bool (cont_idx p L), hS⟩

set_option maxRecDepth 100000 in
theorem clValid (w0 w : World) (H : List Chunk) (x : Int) (hS : Sat w0 w H) :
    Fn Try.prog 30 #[.int .i64 x] w (fun v w' => v = .bool (decide (x ≠ -1 ∧ ¬ (0 ≤ x ∧ x ≤ 4))) ∧ Sat w0 w' H) := by
  refine c_enterS (N := 10) (l := [_]) Try.func30 rfl rfl (fun a hF => ?_)
  refine c_seq ?_
  refine c_region ?_
  refine seq_yl hF (wn_none rfl) rfl rfl (yl_assign hF rfl rfl) ?_
  clear hF; intro a hF
  refine wpList_nil ?_
  refine then_n ?_
  refine c_seq ?_
  refine c_region ?_
  refine seq_yl hF (wn_none rfl) rfl rfl (yl_move hF rfl rfl) ?_
  clear hF; intro a hF
  refine seq_yl hF (wn_none rfl) rfl rfl (yl_bin hF rfl rfl rfl rfl (fun _ => run_neq)) ?_
  clear hF; intro a hF
  refine seq_yl hF (wn_none rfl) rfl rfl (yl_move hF rfl rfl) ?_
  clear hF; intro a hF
  refine fr_split hF (fun hc11 hF => ?_) (fun hc11 hF => ?_)
  · first | (replace hc11 := of_decide_eq_true hc11) | (replace hc11 := of_decide_eq_false (bnot_t hc11)) | (subst hc11) | (replace hc11 := bnot_t hc11; subst hc11) | (replace hc11 := bnot_t hc11) | skip
    refine seq_yl hF (wn_t hF rfl rfl rfl rfl) rfl rfl (yl_move hF rfl rfl) ?_
    clear hF; intro a hF
    refine seq_wp (wn_t hF rfl rfl rfl rfl) (wp_call (vs := [_]) hF rfl rfl rfl rfl cf24 (owner_any (x) _) ?_)
    clear hF; rintro _ w ⟨rfl, hS1⟩ a hF
    replace hS := hS.callB hS1 rfl; clear hS1
    refine seq_yl hF (wn_t hF rfl rfl rfl rfl) rfl rfl (yl_un hF rfl rfl (fun _ => run_not)) ?_
    clear hF; intro a hF
    refine seq_yl hF (wn_none rfl) rfl rfl (yl_pick (u := _) (v := undef) hF rfl rfl (fun _ => rfl) (fun h => by cases h)) ?_
    clear hF; intro a hF
    refine seq_yl hF (wn_none rfl) rfl rfl (yl_assign hF rfl rfl) ?_
    clear hF; intro a hF
    refine wpList_nil ?_
    refine then_n ?_
    refine wp_ret ?_
    refine ret_t hF rfl rfl ?_
    exact ⟨_, rfl, congrArg Value.bool ((decide_not (p := 0 ≤ x ∧ x ≤ 4)).symm.trans (dec_d (by constructor <;> intro _ <;> omega))), (hS.subT 0 [] (by decide) (by first | rfl | simp) (by simp) (by simp))⟩
  · first | (replace hc11 := of_decide_eq_false hc11) | (replace hc11 := of_decide_eq_true (bnot_f hc11)) | (subst hc11) | (replace hc11 := bnot_f hc11; subst hc11) | (replace hc11 := bnot_f hc11) | skip
    refine seq_skip hF (wn_f hF rfl rfl rfl rfl) rfl rfl ?_
    clear hF; intro a hF
    refine seq_skip hF (wn_f hF rfl rfl rfl rfl) rfl rfl ?_
    clear hF; intro a hF
    refine seq_skip hF (wn_f hF rfl rfl rfl rfl) rfl rfl ?_
    clear hF; intro a hF
    refine seq_yl hF (wn_none rfl) rfl rfl (yl_pick (u := _) (v := undef) hF rfl rfl (fun h => by cases h) (fun _ => rfl)) ?_
    clear hF; intro a hF
    refine seq_yl hF (wn_none rfl) rfl rfl (yl_assign hF rfl rfl) ?_
    clear hF; intro a hF
    refine wpList_nil ?_
    refine then_n ?_
    refine wp_ret ?_
    refine ret_t hF rfl rfl ?_
    exact ⟨_, rfl, congrArg Value.bool (dec_f (by omega)), (hS.subT 0 [] (by decide) (by first | rfl | simp) (by simp) (by simp))⟩

set_option maxRecDepth 100000 in
theorem index_any (v : Value) (L : List Int) (n : Int) (w0 : World) (hv : Rd w0 1 v (L).length (cells encI (L))) (hL : L.length ≤ 1000000) :
    Fn Try.prog 25 #[v, .int .i64 n] w0 (fun v w' => v = .int .i64 (idxF (fun y : Int => decide (n = y)) L) ∧ Sat w0 w' []) := by
  obtain ⟨Av, cv, rfl⟩ := Rd.form hv
  refine c_enter (N := 19) (l := [_, _]) Try.func25 rfl rfl (fun a w hF hS => ?_)
  replace hS := hS.addRo hv
  refine c_seq ?_
  refine c_region ?_
  refine seq_yl hF (wn_none rfl) rfl rfl (yl_assign hF rfl rfl) ?_
  clear hF; intro a hF
  refine wpList_nil ?_
  refine then_n ?_
  refine c_seq ?_
  refine c_seq ?_
  refine c_region ?_
  refine seq_yl hF (wn_none rfl) rfl rfl (yl_move hF rfl rfl) ?_
  clear hF; intro a hF
  refine seq_yl hF (wn_none rfl) rfl rfl (yl_len hF rfl rfl (fun _ => run_lenRd sl22 (hS.rdRo 0 rfl))) ?_
  clear hF; intro a hF
  refine seq_yl hF (wn_none rfl) rfl rfl (yl_move hF rfl rfl) ?_
  clear hF; intro a hF
  refine wpList_nil ?_
  refine then_n ?_
  refine wp_block ?_
  refine c_loop (fun m a w => ∃ (k : Nat), m = L.length - k ∧ (k ≤ L.length ∧ ∀ y ∈ L.take k, (fun y : Int => decide (n = y)) y = false) ∧ Fr 19 a [(0, .slice Av (L).length cv), (1, .int .i64 (n)), (7, .int .i64 (((L).length : Nat) : Int)), (8, .int .i64 ((k : Nat) : Int))] ∧ Sat w0 w (.ro 1 (.slice Av (L).length cv) (L).length (cells encI (L)) :: [])) (L.length - 0) ?_ ?_
  · exact ⟨0, rfl, ⟨Nat.zero_le _, by simp⟩, hF.to [0, 1, 7, 8] rfl, (hS.sub [0] (by decide) (by first | rfl | simp) (by simp))⟩
  · clear hF hS; try clear hSS
    clear a w; rintro m a w ⟨k, rfl, hinv, hF, hS⟩
    have hk := hinv.1
    refine c_seq ?_
    refine c_region ?_
    refine seq_yl hF (wn_none rfl) rfl rfl (yl_bin hF rfl rfl rfl rfl (fun _ => run_lss)) ?_
    clear hF; intro a hF
    refine wpList_nil ?_
    refine then_n ?_
    refine c_seq ?_
    refine c_cond hF rfl (fun hc12 => ?_) (fun hc12 => ?_)
    · first | (replace hc12 := of_decide_eq_true hc12) | (replace hc12 := of_decide_eq_false (bnot_t hc12)) | (subst hc12) | (replace hc12 := bnot_t hc12; subst hc12) | (replace hc12 := bnot_t hc12) | skip
      refine wp_skip ?_
      refine then_n ?_
      refine c_seq ?_
      refine wp_block ?_
      refine c_seq ?_
      refine c_region ?_
      refine seq_yl hF (wn_none rfl) rfl rfl (yl_move hF rfl rfl) ?_
      clear hF; intro a hF
      refine seq_yl hF (wn_none rfl) rfl rfl (yl_assign hF rfl rfl) ?_
      clear hF; intro a hF
      refine wpList_nil ?_
      refine then_n ?_
      refine c_seq ?_
      refine c_region ?_
      refine seq_yl hF (wn_none rfl) rfl rfl (yl_move hF rfl rfl) ?_
      clear hF; intro a hF
      refine seq_yl hF (wn_none rfl) rfl rfl (yl_move hF rfl rfl) ?_
      clear hF; intro a hF
      refine seq_yl hF (wn_none rfl) rfl rfl (yl_move hF rfl rfl) ?_
      clear hF; intro a hF
      have hlt_hx13 : k < (L).length := by first | omega | (simp; done) | (simp; omega)
      obtain ⟨ad14, rfl⟩ := rd_some (hS.rdRo 0 rfl) hlt_hx13
      obtain ⟨x13, hx13⟩ := get_some hlt_hx13
      refine seq_yl hF (wn_none rfl) rfl rfl (yl_indexAddr hF rfl rfl rfl (fun _ => run_idx' sl22 sz3 (hS.rdRo 0 rfl) hlt_hx13)) ?_
      clear hF; intro a hF
      refine seq_yl hF (wn_none rfl) rfl rfl (yl_loadAt hF rfl rfl ag3 (fun _ h => rd_cell0 (enc := encI) (by subst h; exact hS.rdRo 0 rfl) encI_len hx13 rfl rfl)) ?_
      clear hF; intro a hF
      refine seq_yl hF (wn_none rfl) rfl rfl (yl_bin hF rfl rfl rfl rfl (fun _ => run_eql)) ?_
      clear hF; intro a hF
      refine wpList_nil ?_
      refine then_n ?_
      refine c_cond hF rfl (fun hc15 => ?_) (fun hc15 => ?_)
      · first | (replace hc15 := of_decide_eq_true hc15) | (replace hc15 := of_decide_eq_false (bnot_t hc15)) | (subst hc15) | (replace hc15 := bnot_t hc15; subst hc15) | (replace hc15 := bnot_t hc15) | skip
        refine c_seq ?_
        refine c_region ?_
        refine seq_yl hF (wn_none rfl) rfl rfl (yl_move hF rfl rfl) ?_
        clear hF; intro a hF
        refine seq_yl hF (wn_none rfl) rfl rfl (yl_assign hF rfl rfl) ?_
        clear hF; intro a hF
        refine wpList_nil ?_
        refine then_n ?_
        refine wp_ret ?_
        refine inb_r ?_
        refine then_r ?_
        refine then_r ?_
        refine inb_r ?_
        refine then_r ?_
        refine ret_t hF rfl rfl ?_
        exact ⟨_, rfl, congrArg (Value.int .i64) (idx_hit hx13 (decide_eq_true (by omega)) hinv.2), (hS.sub [] (by decide) (by first | rfl | simp) (by simp))⟩
      · first | (replace hc15 := of_decide_eq_false hc15) | (replace hc15 := of_decide_eq_true (bnot_f hc15)) | (subst hc15) | (replace hc15 := bnot_f hc15; subst hc15) | (replace hc15 := bnot_f hc15) | skip
        refine wp_skip ?_
        refine inb_n ?_
        refine then_n ?_
        refine c_region ?_
        refine seq_yl hF (wn_none rfl) rfl rfl (yl_bin hF rfl rfl rfl rfl (fun _ => run_inc (by omega))) ?_
        clear hF; intro a hF
        refine seq_yl hF (wn_none rfl) rfl rfl (yl_move hF rfl rfl) ?_
        clear hF; intro a hF
        refine wpList_nil ?_
        refine then_n ?_
        exact ⟨_, (by omega), k + 1, rfl, ⟨by omega, all_not_step hx13 (decide_eq_false (by omega)) hinv.2⟩, hF.to [0, 1, 7, 8] rfl, (hS.sub [0] (by decide) (by first | rfl | simp) (by simp))⟩
    · first | (replace hc12 := of_decide_eq_false hc12) | (replace hc12 := of_decide_eq_true (bnot_f hc12)) | (subst hc12) | (replace hc12 := bnot_f hc12; subst hc12) | (replace hc12 := bnot_f hc12) | skip
      refine wp_exit ?_
      refine then_x ?_
      refine then_x ?_
      refine inb_x ?_
      refine then_n ?_
      refine c_seq ?_
      refine c_region ?_
      refine seq_yl hF (wn_none rfl) rfl rfl (yl_assign hF rfl rfl) ?_
      clear hF; intro a hF
      refine wpList_nil ?_
      refine then_n ?_
      refine wp_ret ?_
      refine ret_t hF rfl rfl ?_
      exact ⟨_, rfl, congrArg (Value.int .i64) (idx_none hinv.2 (by omega)), (hS.sub [] (by decide) (by first | rfl | simp) (by simp))⟩

set_option maxRecDepth 100000 in
theorem sameI_any (v u : Value) (L M : List Int) (w0 : World) (hv : Rd w0 1 v (L).length (cells encI (L))) (hu : Rd w0 1 u (M).length (cells encI (M))) (hL : L.length ≤ 1000000) :
    Fn Try.prog 31 #[v, u] w0 (fun v w' => v = .bool (decide (L = M)) ∧ Sat w0 w' []) := by
  obtain ⟨Av, cv, rfl⟩ := Rd.form hv
  obtain ⟨Au, cu, rfl⟩ := Rd.form hu
  refine c_enter (N := 26) (l := [_, _]) Try.func31 rfl rfl (fun a w hF hS => ?_)
  replace hS := hS.addRo hu
  replace hS := hS.addRo hv
  refine c_seq ?_
  refine c_region ?_
  refine seq_yl hF (wn_none rfl) rfl rfl (yl_assign hF rfl rfl) ?_
  clear hF; intro a hF
  refine wpList_nil ?_
  refine then_n ?_
  refine c_seq ?_
  refine c_seq ?_
  refine c_region ?_
  refine seq_yl hF (wn_none rfl) rfl rfl (yl_move hF rfl rfl) ?_
  clear hF; intro a hF
  refine seq_yl hF (wn_none rfl) rfl rfl (yl_len hF rfl rfl (fun _ => run_lenRd sl22 (hS.rdRo 0 rfl))) ?_
  clear hF; intro a hF
  refine seq_yl hF (wn_none rfl) rfl rfl (yl_move hF rfl rfl) ?_
  clear hF; intro a hF
  refine seq_yl hF (wn_none rfl) rfl rfl (yl_len hF rfl rfl (fun _ => run_lenRd sl22 (hS.rdRo 1 rfl))) ?_
  clear hF; intro a hF
  refine seq_yl hF (wn_none rfl) rfl rfl (yl_bin hF rfl rfl rfl rfl (fun _ => run_neq)) ?_
  clear hF; intro a hF
  refine wpList_nil ?_
  refine then_n ?_
  refine c_cond hF rfl (fun hc16 => ?_) (fun hc16 => ?_)
  · first | (replace hc16 := of_decide_eq_true hc16) | (replace hc16 := of_decide_eq_false (bnot_t hc16)) | (subst hc16) | (replace hc16 := bnot_t hc16; subst hc16) | (replace hc16 := bnot_t hc16) | skip
    refine c_seq ?_
    refine c_region ?_
    refine seq_yl hF (wn_none rfl) rfl rfl (yl_assign hF rfl rfl) ?_
    clear hF; intro a hF
    refine wpList_nil ?_
    refine then_n ?_
    refine wp_ret ?_
    refine then_r ?_
    refine ret_t hF rfl rfl ?_
    exact ⟨_, rfl, congrArg Value.bool (dec_f (by rintro rfl; omega)), (hS.sub [] (by decide) (by first | rfl | simp) (by simp))⟩
  · first | (replace hc16 := of_decide_eq_false hc16) | (replace hc16 := of_decide_eq_true (bnot_f hc16)) | (subst hc16) | (replace hc16 := bnot_f hc16; subst hc16) | (replace hc16 := bnot_f hc16) | skip
    refine wp_skip ?_
    refine then_n ?_
    refine c_seq ?_
    refine c_seq ?_
    refine c_region ?_
    refine seq_yl hF (wn_none rfl) rfl rfl (yl_assign hF rfl rfl) ?_
    clear hF; intro a hF
    refine wpList_nil ?_
    refine then_n ?_
    refine wp_block ?_
    refine c_loop (fun m a w => ∃ (k : Nat), m = L.length - k ∧ (k ≤ L.length ∧ L.take k = M.take k) ∧ Fr 26 a [(0, .slice Av (L).length cv), (1, .slice Au (M).length cu), (5, .int .i64 ((k : Nat) : Int))] ∧ Sat w0 w (.ro 1 (.slice Av (L).length cv) (L).length (cells encI (L)) :: .ro 1 (.slice Au (M).length cu) (M).length (cells encI (M)) :: [])) (L.length - 0) ?_ ?_
    · exact ⟨0, rfl, ⟨Nat.zero_le _, by simp⟩, hF.to [0, 1, 5] rfl, (hS.sub [0, 1] (by decide) (by first | rfl | simp) (by simp))⟩
    · clear hF hS; try clear hSS
      clear a w; rintro m a w ⟨k, rfl, hinv, hF, hS⟩
      have hk := hinv.1
      refine c_seq ?_
      refine c_seq ?_
      refine c_region ?_
      refine seq_yl hF (wn_none rfl) rfl rfl (yl_move hF rfl rfl) ?_
      clear hF; intro a hF
      refine seq_yl hF (wn_none rfl) rfl rfl (yl_move hF rfl rfl) ?_
      clear hF; intro a hF
      refine seq_yl hF (wn_none rfl) rfl rfl (yl_len hF rfl rfl (fun _ => run_lenRd sl22 (hS.rdRo 0 rfl))) ?_
      clear hF; intro a hF
      refine seq_yl hF (wn_none rfl) rfl rfl (yl_bin hF rfl rfl rfl rfl (fun _ => run_lss)) ?_
      clear hF; intro a hF
      refine wpList_nil ?_
      refine then_n ?_
      refine c_cond hF rfl (fun hc17 => ?_) (fun hc17 => ?_)
      · first | (replace hc17 := of_decide_eq_true hc17) | (replace hc17 := of_decide_eq_false (bnot_t hc17)) | (subst hc17) | (replace hc17 := bnot_t hc17; subst hc17) | (replace hc17 := bnot_t hc17) | skip
        refine wp_skip ?_
        refine then_n ?_
        refine c_seq ?_
        refine wp_block ?_
        refine c_seq ?_
        refine ha_startS hS [0, 1] 9 (by kernel_rfl) ?_; clear hS; intro w hS
        have hSS := hS.sub [0, 1] (by decide) rfl (by simp)
        refine ha_y 0 hF rfl rfl rfl (wn_none rfl) (.inr hSS) (yl_move hF rfl rfl) ?_
        clear hF; intro a hF
        refine ha_y 1 hF rfl rfl rfl (wn_none rfl) (.inr hSS) (yl_move hF rfl rfl) ?_
        clear hF; intro a hF
        have hlt_hx18 : k < (L).length := by first | omega | (simp; done) | (simp; omega)
        obtain ⟨ad19, rfl⟩ := rd_some (hS.rdRo 0 rfl) hlt_hx18
        obtain ⟨x18, hx18⟩ := get_some hlt_hx18
        refine ha_y 2 hF rfl rfl rfl (wn_none rfl) (.inr hSS) (yl_indexAddr hF rfl rfl rfl (fun _ => run_idx' sl22 sz3 (hS.rdRo 0 rfl) hlt_hx18)) ?_
        clear hF; intro a hF
        refine ha_y 4 hF rfl rfl rfl (wn_none rfl) (.inr hSS) (yl_move hF rfl rfl) ?_
        clear hF; intro a hF
        refine ha_y 5 hF rfl rfl rfl (wn_none rfl) (.inr hSS) (yl_move hF rfl rfl) ?_
        clear hF; intro a hF
        have hlt_hx20 : k < (M).length := by first | omega | (simp; done) | (simp; omega)
        obtain ⟨ad21, rfl⟩ := rd_some (hS.rdRo 1 rfl) hlt_hx20
        obtain ⟨x20, hx20⟩ := get_some hlt_hx20
        refine ha_y 6 hF rfl rfl rfl (wn_none rfl) (.inr hSS) (yl_indexAddr hF rfl rfl rfl (fun _ => run_idx' sl22 sz3 (hS.rdRo 1 rfl) hlt_hx20)) ?_
        clear hF; intro a hF
        refine ha_l 3 hF rfl rfl rfl (wn_none rfl) hSS (yl_loadAt hF rfl rfl ag3 (fun _ h => rd_cell0 (enc := encI) (Sat.rdRo h 0 rfl) encI_len hx18 rfl rfl)) ?_
        clear hF; intro a hF
        refine ha_l 7 hF rfl rfl rfl (wn_none rfl) hSS (yl_loadAt hF rfl rfl ag3 (fun _ h => rd_cell0 (enc := encI) (Sat.rdRo h 1 rfl) encI_len hx20 rfl rfl)) ?_
        clear hF; intro a hF
        refine ha_y 8 hF rfl rfl rfl (wn_none rfl) (.inr hSS) (yl_bin hF rfl rfl rfl rfl (fun _ => run_neq)) ?_
        clear hF; intro a hF
        refine ha_done (by kernel_rfl) ?_ _
        refine then_n ?_
        refine c_cond hF rfl (fun hc22 => ?_) (fun hc22 => ?_)
        · first | (replace hc22 := of_decide_eq_true hc22) | (replace hc22 := of_decide_eq_false (bnot_t hc22)) | (subst hc22) | (replace hc22 := bnot_t hc22; subst hc22) | (replace hc22 := bnot_t hc22) | skip
          refine c_seq ?_
          refine c_region ?_
          refine seq_yl hF (wn_none rfl) rfl rfl (yl_assign hF rfl rfl) ?_
          clear hF; intro a hF
          refine wpList_nil ?_
          refine then_n ?_
          refine wp_ret ?_
          refine inb_r ?_
          refine then_r ?_
          refine then_r ?_
          refine inb_r ?_
          refine then_r ?_
          refine ret_t hF rfl rfl ?_
          exact ⟨_, rfl, congrArg Value.bool (dec_f (by rintro rfl; have h9 := hx20; rw [hx18] at h9; injection h9 with h9; subst h9; exact absurd rfl (by assumption))), (hS.sub [] (by decide) (by first | rfl | simp) (by simp))⟩
        · first | (replace hc22 := of_decide_eq_false hc22) | (replace hc22 := of_decide_eq_true (bnot_f hc22)) | (subst hc22) | (replace hc22 := bnot_f hc22; subst hc22) | (replace hc22 := bnot_f hc22) | skip
          refine wp_skip ?_
          refine inb_n ?_
          refine then_n ?_
          refine c_region ?_
          refine seq_yl hF (wn_none rfl) rfl rfl (yl_move hF rfl rfl) ?_
          clear hF; intro a hF
          refine seq_yl hF (wn_none rfl) rfl rfl (yl_bin hF rfl rfl rfl rfl (fun _ => run_inc (by omega))) ?_
          clear hF; intro a hF
          refine seq_yl hF (wn_none rfl) rfl rfl (yl_assign hF rfl rfl) ?_
          clear hF; intro a hF
          refine wpList_nil ?_
          refine then_n ?_
          exact ⟨_, (by omega), k + 1, rfl, ⟨by omega, take_eq_step hx18 hx20 (by omega) hinv.2⟩, hF.to [0, 1, 5] rfl, (hS.sub [0, 1] (by decide) (by first | rfl | simp) (by simp))⟩
      · first | (replace hc17 := of_decide_eq_false hc17) | (replace hc17 := of_decide_eq_true (bnot_f hc17)) | (subst hc17) | (replace hc17 := bnot_f hc17; subst hc17) | (replace hc17 := bnot_f hc17) | skip
        refine wp_exit ?_
        refine then_x ?_
        refine then_x ?_
        refine inb_x ?_
        refine then_n ?_
        refine c_seq ?_
        refine c_region ?_
        refine seq_yl hF (wn_none rfl) rfl rfl (yl_assign hF rfl rfl) ?_
        clear hF; intro a hF
        refine wpList_nil ?_
        refine then_n ?_
        refine wp_ret ?_
        refine ret_t hF rfl rfl ?_
        exact ⟨_, rfl, congrArg Value.bool (dec_t (by have h9 := hinv.2; rwa [List.take_of_length_le (by omega), List.take_of_length_le (by omega)] at h9)), (hS.sub [] (by decide) (by first | rfl | simp) (by simp))⟩

end Go.Proofs.Ytaakkkknnihfmaa

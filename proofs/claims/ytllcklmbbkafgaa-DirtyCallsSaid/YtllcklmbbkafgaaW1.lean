/- walks, printed by wip/gen -/
import Derived.Test.YtllcklmbbkafgaaF
import Derived.Test.YtllcklmbbkafgaaP
namespace Go.Proofs.Ytllcklmbbkafgaa
open Go.RowKit
set_option linter.unusedVariables false
set_option linter.unusedSimpArgs false

theorem tick_any (n l : Int) (w0 : World) :
    Fn Try.prog 24 #[.int .i64 n, .int .i64 l] w0 (fun v w' => v = .bool (decide (l ≤ n ∧ n ≤ 1000000)) ∧ Sat w0 w' []) := by
  refine c_enter (N := 12) (l := [_, _]) Try.func24 rfl rfl (fun a w hF hS => ?_)
  refine c_seq ?_
  refine c_region ?_
  refine seq_yl hF (wn_none rfl) rfl rfl (yl_assign hF rfl rfl) ?_
  clear hF; intro a hF
  refine wpList_nil ?_
  refine then_n ?_
  refine c_seq ?_
  refine c_region ?_
  refine seq_yl hF (wn_none rfl) rfl rfl (yl_move hF rfl rfl) ?_
  clear hF; intro a hF
  refine seq_yl hF (wn_none rfl) rfl rfl (yl_move hF rfl rfl) ?_
  clear hF; intro a hF
  refine seq_yl hF (wn_none rfl) rfl rfl (yl_bin hF rfl rfl rfl rfl (fun _ => run_geq)) ?_
  clear hF; intro a hF
  refine seq_yl hF (wn_none rfl) rfl rfl (yl_move hF rfl rfl) ?_
  clear hF; intro a hF
  refine fr_split hF (fun hc1 hF => ?_) (fun hc1 hF => ?_)
  · first | (replace hc1 := of_decide_eq_true hc1) | (replace hc1 := of_decide_eq_false (bnot_t hc1)) | (subst hc1) | (replace hc1 := bnot_t hc1; subst hc1) | (replace hc1 := bnot_t hc1) | skip
    refine seq_yl hF (wn_t hF rfl rfl rfl rfl) rfl rfl (yl_move hF rfl rfl) ?_
    clear hF; intro a hF
    refine seq_yl hF (wn_t hF rfl rfl rfl rfl) rfl rfl (yl_bin hF rfl rfl rfl rfl (fun _ => run_leq)) ?_
    clear hF; intro a hF
    refine seq_yl hF (wn_none rfl) rfl rfl (yl_pick (u := _) (v := undef) hF rfl rfl (fun _ => rfl) (fun h => by cases h)) ?_
    clear hF; intro a hF
    refine seq_yl hF (wn_none rfl) rfl rfl (yl_assign hF rfl rfl) ?_
    clear hF; intro a hF
    refine wpList_nil ?_
    refine then_n ?_
    refine wp_ret ?_
    refine ret_t hF rfl rfl ?_
    exact ⟨_, rfl, congrArg Value.bool (by simp only [Bool.false_eq, Bool.true_eq, decide_eq_decide, decide_eq_true_eq, decide_eq_false_iff_not]; omega), (hS.sub [] (by decide) (by first | rfl | simp) (by simp))⟩
  · first | (replace hc1 := of_decide_eq_false hc1) | (replace hc1 := of_decide_eq_true (bnot_f hc1)) | (subst hc1) | (replace hc1 := bnot_f hc1; subst hc1) | (replace hc1 := bnot_f hc1) | skip
    refine seq_skip hF (wn_f hF rfl rfl rfl rfl) rfl rfl ?_
    clear hF; intro a hF
    refine seq_skip hF (wn_f hF rfl rfl rfl rfl) rfl rfl ?_
    clear hF; intro a hF
    refine seq_yl hF (wn_none rfl) rfl rfl (yl_pick (u := _) (v := undef) hF rfl rfl (fun h => by cases h) (fun _ => rfl)) ?_
    clear hF; intro a hF
    refine seq_yl hF (wn_none rfl) rfl rfl (yl_assign hF rfl rfl) ?_
    clear hF; intro a hF
    refine wpList_nil ?_
    refine then_n ?_
    refine wp_ret ?_
    refine ret_t hF rfl rfl ?_
    exact ⟨_, rfl, congrArg Value.bool (by simp only [Bool.false_eq, Bool.true_eq, decide_eq_decide, decide_eq_true_eq, decide_eq_false_iff_not]; omega), (hS.sub [] (by decide) (by first | rfl | simp) (by simp))⟩

theorem pages_any (n : Int) (w0 : World) :
    Fn Try.prog 26 #[.int .i64 n] w0 (fun v w' => v = .bool (decide (0 ≤ n ∧ n ≤ 64)) ∧ Sat w0 w' []) := by
  refine c_enter (N := 9) (l := [_]) Try.func26 rfl rfl (fun a w hF hS => ?_)
  refine c_seq ?_
  refine c_region ?_
  refine seq_yl hF (wn_none rfl) rfl rfl (yl_assign hF rfl rfl) ?_
  clear hF; intro a hF
  refine wpList_nil ?_
  refine then_n ?_
  refine c_seq ?_
  refine c_region ?_
  refine seq_yl hF (wn_none rfl) rfl rfl (yl_move hF rfl rfl) ?_
  clear hF; intro a hF
  refine seq_yl hF (wn_none rfl) rfl rfl (yl_bin hF rfl rfl rfl rfl (fun _ => run_geq)) ?_
  clear hF; intro a hF
  refine seq_yl hF (wn_none rfl) rfl rfl (yl_move hF rfl rfl) ?_
  clear hF; intro a hF
  refine fr_split hF (fun hc2 hF => ?_) (fun hc2 hF => ?_)
  · first | (replace hc2 := of_decide_eq_true hc2) | (replace hc2 := of_decide_eq_false (bnot_t hc2)) | (subst hc2) | (replace hc2 := bnot_t hc2; subst hc2) | (replace hc2 := bnot_t hc2) | skip
    refine seq_yl hF (wn_t hF rfl rfl rfl rfl) rfl rfl (yl_move hF rfl rfl) ?_
    clear hF; intro a hF
    refine seq_yl hF (wn_t hF rfl rfl rfl rfl) rfl rfl (yl_bin hF rfl rfl rfl rfl (fun _ => run_leq)) ?_
    clear hF; intro a hF
    refine seq_yl hF (wn_none rfl) rfl rfl (yl_pick (u := _) (v := undef) hF rfl rfl (fun _ => rfl) (fun h => by cases h)) ?_
    clear hF; intro a hF
    refine seq_yl hF (wn_none rfl) rfl rfl (yl_assign hF rfl rfl) ?_
    clear hF; intro a hF
    refine wpList_nil ?_
    refine then_n ?_
    refine wp_ret ?_
    refine ret_t hF rfl rfl ?_
    exact ⟨_, rfl, congrArg Value.bool (by simp only [Bool.false_eq, Bool.true_eq, decide_eq_decide, decide_eq_true_eq, decide_eq_false_iff_not]; omega), (hS.sub [] (by decide) (by first | rfl | simp) (by simp))⟩
  · first | (replace hc2 := of_decide_eq_false hc2) | (replace hc2 := of_decide_eq_true (bnot_f hc2)) | (subst hc2) | (replace hc2 := bnot_f hc2; subst hc2) | (replace hc2 := bnot_f hc2) | skip
    refine seq_skip hF (wn_f hF rfl rfl rfl rfl) rfl rfl ?_
    clear hF; intro a hF
    refine seq_skip hF (wn_f hF rfl rfl rfl rfl) rfl rfl ?_
    clear hF; intro a hF
    refine seq_yl hF (wn_none rfl) rfl rfl (yl_pick (u := _) (v := undef) hF rfl rfl (fun h => by cases h) (fun _ => rfl)) ?_
    clear hF; intro a hF
    refine seq_yl hF (wn_none rfl) rfl rfl (yl_assign hF rfl rfl) ?_
    clear hF; intro a hF
    refine wpList_nil ?_
    refine then_n ?_
    refine wp_ret ?_
    refine ret_t hF rfl rfl ?_
    exact ⟨_, rfl, congrArg Value.bool (by simp only [Bool.false_eq, Bool.true_eq, decide_eq_decide, decide_eq_true_eq, decide_eq_false_iff_not]; omega), (hS.sub [] (by decide) (by first | rfl | simp) (by simp))⟩

theorem cut_any (n m : Int) (w0 : World) (h1 : 1 ≤ m) (hm : m ≤ 9223372036854775807) :
    Fn Try.prog 23 #[.int .i64 n, .int .i64 m] w0 (fun v w' => v = .int .i64 (rnd n m) ∧ Sat w0 w' []) := by
  refine c_enter (N := 11) (l := [_, _]) Try.func23 rfl rfl (fun a w hF hS => ?_)
  refine c_seq ?_
  refine c_region ?_
  refine seq_yl hF (wn_none rfl) rfl rfl (yl_assign hF rfl rfl) ?_
  clear hF; intro a hF
  refine wpList_nil ?_
  refine then_n ?_
  refine c_seq ?_
  refine c_region ?_
  refine seq_yl hF (wn_none rfl) rfl rfl (yl_move hF rfl rfl) ?_
  clear hF; intro a hF
  refine seq_yl hF (wn_none rfl) rfl rfl (yl_conv hF rfl rfl (fun _ => run_cnv Try.underlying3 Try.underlying45)) ?_
  clear hF; intro a hF
  refine seq_yl hF (wn_none rfl) rfl rfl (yl_move hF rfl rfl) ?_
  clear hF; intro a hF
  refine seq_yl hF (wn_none rfl) rfl rfl (yl_conv hF rfl rfl (fun _ => run_cnv Try.underlying3 Try.underlying45)) ?_
  clear hF; intro a hF
  refine seq_yl hF (wn_none rfl) rfl rfl (yl_bin hF rfl rfl rfl rfl (fun _ => run_rem (by rw [wrap_u64]; omega))) ?_
  clear hF; intro a hF
  refine seq_yl hF (wn_none rfl) rfl rfl (yl_conv hF rfl rfl (fun _ => run_cnv Try.underlying45 Try.underlying3)) ?_
  clear hF; intro a hF
  refine seq_yl hF (wn_none rfl) rfl rfl (yl_assign hF rfl rfl) ?_
  clear hF; intro a hF
  refine wpList_nil ?_
  refine then_n ?_
  refine wp_ret ?_
  refine ret_t hF rfl rfl ?_
  exact ⟨_, rfl, congrArg (Value.int .i64) (round_eq (by omega) hm), (hS.sub [] (by decide) (by first | rfl | simp) (by simp))⟩

theorem clone_any (v : Value) (L : List Int) (w0 : World) (h : Rd w0 1 v (L).length (cells encI (L))) (hn : L.length ≤ 1000000) :
    Fn Try.prog 25 #[v] w0 (fun v w' => ∃ v1, v = v1 ∧ Sat w0 w' [.row 3 1 v1 (L).length (cells encI (L))]) := by
  obtain ⟨Av, cv, rfl⟩ := Rd.form h
  refine c_enter (N := 8) (l := [_]) Try.func25 rfl rfl (fun a w hF hS => ?_)
  replace hS := hS.addRo h
  refine c_seq ?_
  refine c_region ?_
  refine seq_yl hF (wn_none rfl) rfl rfl (yl_assign hF rfl rfl) ?_
  clear hF; intro a hF
  refine wpList_nil ?_
  refine then_n ?_
  refine c_seq ?_
  refine c_seq ?_
  refine c_region ?_
  refine seq_yl hF (wn_none rfl) rfl rfl (yl_move hF rfl rfl) ?_
  clear hF; intro a hF
  refine seq_yl hF (wn_none rfl) rfl rfl (yl_bin hF rfl rfl rfl rfl (fun _ => run_slnil sl22)) ?_
  clear hF; intro a hF
  refine wpList_nil ?_
  refine then_n ?_
  refine c_cond hF rfl (fun hc3 => ?_) (fun hc3 => ?_)
  · first | (replace hc3 := of_decide_eq_true hc3) | (replace hc3 := of_decide_eq_false (bnot_t hc3)) | (subst hc3) | (replace hc3 := bnot_t hc3; subst hc3) | (replace hc3 := bnot_t hc3) | skip
    refine c_seq ?_
    refine c_region ?_
    refine seq_yl hF (wn_none rfl) rfl rfl (yl_assign hF rfl rfl) ?_
    clear hF; intro a hF
    refine wpList_nil ?_
    refine then_n ?_
    refine wp_ret ?_
    refine then_r ?_
    refine ret_t hF rfl rfl ?_
    obtain rfl := rd_none h (by assumption)
    replace hS := hS.addNil 3 1
    exact ⟨_, rfl, _, rfl, (hS.sub [0] (by decide) (by first | rfl | simp) (by simp))⟩
  · first | (replace hc3 := of_decide_eq_false hc3) | (replace hc3 := of_decide_eq_true (bnot_f hc3)) | (subst hc3) | (replace hc3 := bnot_f hc3; subst hc3) | (replace hc3 := bnot_f hc3) | skip
    refine wp_skip ?_
    refine then_n ?_
    refine c_seq ?_
    refine c_region ?_
    refine seq_wp (wn_none rfl) (wp_bslice (parts := []) (vs := []) (enc := encI) (e := 3) (size := 1) (cs := #[]) hF hS rfl rfl rfl rfl ([] : List Int) (fun w => by kernel_rfl) rfl rfl rfl (by decide) ?_)
    clear hF hS; intro a w v5 hF hS
    obtain ⟨Av5, cv5, rfl⟩ := hS.form 0 rfl
    refine seq_yl hF (wn_none rfl) rfl rfl (yl_move hF rfl rfl) ?_
    clear hF; intro a hF
    refine seq_wp (wn_none rfl) (wp_app (enc := encI) hF hS rfl rfl rfl rfl rfl 0 rfl sl22 inf3 rfl (by decide) (hS.rdRo 1 rfl) encI_one (by decide) (by first | omega | (simp only [List.length_append, List.length_cons, List.length_nil]; omega)) ?_)
    clear hF hS; intro a w v6 hF hS
    obtain ⟨Av6, cv6, rfl⟩ := hS.form 0 rfl
    refine seq_yl hF (wn_none rfl) rfl rfl (yl_assign hF rfl rfl) ?_
    clear hF; intro a hF
    refine wpList_nil ?_
    refine then_n ?_
    refine wp_ret ?_
    refine ret_t hF rfl rfl ?_
    exact ⟨_, rfl, _, rfl, (hS.sub [0] (by decide) (by first | rfl | simp) (by simp))⟩

theorem check_any (v : Value) (L : List Int) (p q : Int) (w0 : World) (hv : Rd w0 1 v (L).length (cells encI (L))) (hL : L.length ≤ 1000000) :
    Fn Try.prog 14 #[.agg #[v, .int .i64 p, .int .i64 q]] w0 (fun v w' => v = .bool (chkF L p q) ∧ Sat w0 w' []) := by
  obtain ⟨Av, cv, rfl⟩ := Rd.form hv
  refine c_enter (N := 43) (l := [_]) Try.func14 rfl rfl (fun a w hF hS => ?_)
  replace hS := hS.addRo hv
  refine c_seq ?_
  refine c_region ?_
  refine seq_wp (wn_none rfl) (wp_box (cs := #[_, _, _]) hF hS rfl rfl rfl rfl rfl ?_)
  clear hF hS; intro a w g7 hF hS
  refine seq_yl hF (wn_none rfl) rfl rfl (yl_assign hF rfl rfl) ?_
  clear hF; intro a hF
  refine wpList_nil ?_
  refine then_n ?_
  refine c_seq ?_
  refine c_seq ?_
  refine c_region ?_
  refine seq_yl hF (wn_none rfl) rfl rfl (yl_fieldAddr hF rfl rfl (fun w => by kernel_rfl : ∀ w, (Instr.fieldAt 27 (.pointer (some ⟨g7, 0, none⟩)) 0).run Try.prog w = .ok (.pointer (some ⟨g7, 0, none⟩)) w)) ?_
  clear hF; intro a hF
  refine seq_yl hF (wn_none rfl) rfl rfl (yl_load (fun _ h => h ▸ hS) hF rfl rfl 0 rfl ag22 rfl) ?_
  clear hF; intro a hF
  refine seq_yl hF (wn_none rfl) rfl rfl (yl_len hF rfl rfl (fun _ => run_lenRd sl22 (hS.rdRo 1 rfl))) ?_
  clear hF; intro a hF
  refine seq_yl hF (wn_none rfl) rfl rfl (yl_move hF rfl rfl) ?_
  clear hF; intro a hF
  refine wpList_nil ?_
  refine then_n ?_
  refine wp_block ?_
  refine c_loop (fun m a w => ∃ (k : Nat), m = L.length - k ∧ (k ≤ L.length ∧ ∀ e ∈ L.take k, 0 ≤ e ∧ e ≤ 1000000) ∧ Fr 43 a [(1, .pointer (some ⟨g7, 0, none⟩)), (6, .slice Av (L).length cv), (7, .int .i64 (((L).length : Nat) : Int)), (8, .int .i64 ((k : Nat) : Int))] ∧ Sat w0 w (.ro 1 (.slice Av (L).length cv) (L).length (cells encI (L)) :: .box g7 27 #[.slice Av (L).length cv, .int .i64 (p), .int .i64 (q)] :: [])) (L.length - 0) ?_ ?_
  · exact ⟨0, rfl, ⟨Nat.zero_le _, by simp⟩, hF.to [1, 6, 7, 8] rfl, (hS.sub [1, 0] (by decide) (by first | rfl | simp) (by simp))⟩
  · clear hF hS; try clear hSS
    clear a w; rintro m a w ⟨k, rfl, hinv, hF, hS⟩
    have hk := hinv.1
    refine c_seq ?_
    refine c_region ?_
    refine seq_yl hF (wn_none rfl) rfl rfl (yl_bin hF rfl rfl rfl rfl (fun _ => run_lss)) ?_
    clear hF; intro a hF
    refine wpList_nil ?_
    refine then_n ?_
    refine c_seq ?_
    refine c_cond hF rfl (fun hc8 => ?_) (fun hc8 => ?_)
    · first | (replace hc8 := of_decide_eq_true hc8) | (replace hc8 := of_decide_eq_false (bnot_t hc8)) | (subst hc8) | (replace hc8 := bnot_t hc8; subst hc8) | (replace hc8 := bnot_t hc8) | skip
      refine wp_skip ?_
      refine then_n ?_
      refine c_seq ?_
      refine wp_block ?_
      refine c_seq ?_
      refine c_region ?_
      have hlt_hx9 : k < (L).length := by first | omega | (simp; done) | (simp; omega)
      obtain ⟨ad10, rfl⟩ := rd_some (hS.rdRo 0 rfl) hlt_hx9
      obtain ⟨x9, hx9⟩ := get_some hlt_hx9
      refine seq_yl hF (wn_none rfl) rfl rfl (yl_indexAddr hF rfl rfl rfl (fun _ => run_idx' sl22 sz3 (hS.rdRo 0 rfl) hlt_hx9)) ?_
      clear hF; intro a hF
      refine seq_yl hF (wn_none rfl) rfl rfl (yl_loadAt hF rfl rfl ag3 (fun _ h => rd_cell0 (by subst h; exact hS.rdRo 0 rfl) encI_len hx9 rfl rfl)) ?_
      clear hF; intro a hF
      refine seq_yl hF (wn_none rfl) rfl rfl (yl_assign hF rfl rfl) ?_
      clear hF; intro a hF
      refine wpList_nil ?_
      refine then_n ?_
      refine c_seq ?_
      refine c_region ?_
      refine seq_yl hF (wn_none rfl) rfl rfl (yl_move hF rfl rfl) ?_
      clear hF; intro a hF
      refine seq_wp (wn_none rfl) (wp_call (vs := [_, _]) hF rfl rfl rfl rfl cf24 (tick_any (x9) (0 : Int) _) ?_)
      clear hF; rintro _ w ⟨rfl, hS1⟩ a hF
      replace hS := hS.callB hS1 rfl; clear hS1
      refine seq_yl hF (wn_none rfl) rfl rfl (yl_un hF rfl rfl (fun _ => run_not)) ?_
      clear hF; intro a hF
      refine wpList_nil ?_
      refine then_n ?_
      refine c_cond hF rfl (fun hc11 => ?_) (fun hc11 => ?_)
      · first | (replace hc11 := of_decide_eq_true hc11) | (replace hc11 := of_decide_eq_false (bnot_t hc11)) | (subst hc11) | (replace hc11 := bnot_t hc11; subst hc11) | (replace hc11 := bnot_t hc11) | skip
        refine c_seq ?_
        refine c_region ?_
        refine seq_yl hF (wn_none rfl) rfl rfl (yl_assign hF rfl rfl) ?_
        clear hF; intro a hF
        refine wpList_nil ?_
        refine then_n ?_
        refine wp_ret ?_
        refine inb_r ?_
        refine then_r ?_
        refine then_r ?_
        refine inb_r ?_
        refine then_r ?_
        refine ret_t hF rfl rfl ?_
        exact ⟨_, rfl, congrArg Value.bool (chk_no hx9 (by first | omega | (simp only [decide_eq_false_iff_not] at *; omega))), (hS.sub [] (by decide) (by first | rfl | simp) (by simp))⟩
      · first | (replace hc11 := of_decide_eq_false hc11) | (replace hc11 := of_decide_eq_true (bnot_f hc11)) | (subst hc11) | (replace hc11 := bnot_f hc11; subst hc11) | (replace hc11 := bnot_f hc11) | skip
        refine wp_skip ?_
        refine inb_n ?_
        refine then_n ?_
        refine c_region ?_
        refine seq_yl hF (wn_none rfl) rfl rfl (yl_bin hF rfl rfl rfl rfl (fun _ => run_inc (by omega))) ?_
        clear hF; intro a hF
        refine seq_yl hF (wn_none rfl) rfl rfl (yl_move hF rfl rfl) ?_
        clear hF; intro a hF
        refine wpList_nil ?_
        refine then_n ?_
        exact ⟨_, (by omega), k + 1, rfl, ⟨by omega, all_step hinv.2 hx9 (by first | omega | (simp only [decide_eq_true_eq] at *; omega))⟩, hF.to [1, 6, 7, 8] rfl, (hS.sub [0, 1] (by decide) (by first | rfl | simp) (by simp))⟩
    · first | (replace hc8 := of_decide_eq_false hc8) | (replace hc8 := of_decide_eq_true (bnot_f hc8)) | (subst hc8) | (replace hc8 := bnot_f hc8; subst hc8) | (replace hc8 := bnot_f hc8) | skip
      refine wp_exit ?_
      refine then_x ?_
      refine then_x ?_
      refine inb_x ?_
      refine then_n ?_
      refine c_seq ?_
      refine c_region ?_
      refine seq_yl hF (wn_none rfl) rfl rfl (yl_fieldAddr hF rfl rfl (fun w => by kernel_rfl : ∀ w, (Instr.fieldAt 27 (.pointer (some ⟨g7, 0, none⟩)) 0).run Try.prog w = .ok (.pointer (some ⟨g7, 0, none⟩)) w)) ?_
      clear hF; intro a hF
      refine seq_yl hF (wn_none rfl) rfl rfl (yl_load (fun _ h => h ▸ hS) hF rfl rfl 1 rfl ag22 rfl) ?_
      clear hF; intro a hF
      refine seq_yl hF (wn_none rfl) rfl rfl (yl_len hF rfl rfl (fun _ => run_lenRd sl22 (hS.rdRo 0 rfl))) ?_
      clear hF; intro a hF
      refine seq_yl hF (wn_none rfl) rfl rfl (yl_bin hF rfl rfl rfl rfl (fun _ => run_geq)) ?_
      clear hF; intro a hF
      refine seq_yl hF (wn_none rfl) rfl rfl (yl_move hF rfl rfl) ?_
      clear hF; intro a hF
      refine fr_split hF (fun hc12 hF => ?_) (fun hc12 hF => ?_)
      · first | (replace hc12 := of_decide_eq_true hc12) | (replace hc12 := of_decide_eq_false (bnot_t hc12)) | (subst hc12) | (replace hc12 := bnot_t hc12; subst hc12) | (replace hc12 := bnot_t hc12) | skip
        refine seq_yl hF (wn_t hF rfl rfl rfl rfl) rfl rfl (yl_fieldAddr hF rfl rfl (fun w => by kernel_rfl : ∀ w, (Instr.fieldAt 27 (.pointer (some ⟨g7, 0, none⟩)) 0).run Try.prog w = .ok (.pointer (some ⟨g7, 0, none⟩)) w)) ?_
        clear hF; intro a hF
        refine seq_yl hF (wn_t hF rfl rfl rfl rfl) rfl rfl (yl_load (fun _ h => h ▸ hS) hF rfl rfl 1 rfl ag22 rfl) ?_
        clear hF; intro a hF
        refine seq_yl hF (wn_t hF rfl rfl rfl rfl) rfl rfl (yl_len hF rfl rfl (fun _ => run_lenRd sl22 (hS.rdRo 0 rfl))) ?_
        clear hF; intro a hF
        refine seq_yl hF (wn_t hF rfl rfl rfl rfl) rfl rfl (yl_bin hF rfl rfl rfl rfl (fun _ => run_leq)) ?_
        clear hF; intro a hF
        refine seq_yl hF (wn_none rfl) rfl rfl (yl_pick (u := _) (v := undef) hF rfl rfl (fun _ => rfl) (fun h => by cases h)) ?_
        clear hF; intro a hF
        refine seq_yl hF (wn_none rfl) rfl rfl (yl_move hF rfl rfl) ?_
        clear hF; intro a hF
        refine fr_split hF (fun hc13 hF => ?_) (fun hc13 hF => ?_)
        · first | (replace hc13 := of_decide_eq_true hc13) | (replace hc13 := of_decide_eq_false (bnot_t hc13)) | (subst hc13) | (replace hc13 := bnot_t hc13; subst hc13) | (replace hc13 := bnot_t hc13) | skip
          refine seq_yl hF (wn_t hF rfl rfl rfl rfl) rfl rfl (yl_fieldAddr hF rfl rfl (fun w => by kernel_rfl : ∀ w, (Instr.fieldAt 27 (.pointer (some ⟨g7, 0, none⟩)) 1).run Try.prog w = .ok (.pointer (some ⟨g7, 1, none⟩)) w)) ?_
          clear hF; intro a hF
          refine seq_yl hF (wn_t hF rfl rfl rfl rfl) rfl rfl (yl_load (fun _ h => h ▸ hS) hF rfl rfl 1 rfl ag3 rfl) ?_
          clear hF; intro a hF
          refine seq_wp (wn_t hF rfl rfl rfl rfl) (wp_call (vs := [_, _]) hF rfl rfl rfl rfl cf24 (tick_any (p) (1 : Int) _) ?_)
          clear hF; rintro _ w ⟨rfl, hS1⟩ a hF
          replace hS := hS.callB hS1 rfl; clear hS1
          refine seq_yl hF (wn_none rfl) rfl rfl (yl_pick (u := _) (v := undef) hF rfl rfl (fun _ => rfl) (fun h => by cases h)) ?_
          clear hF; intro a hF
          refine seq_yl hF (wn_none rfl) rfl rfl (yl_move hF rfl rfl) ?_
          clear hF; intro a hF
          refine fr_split hF (fun hc14 hF => ?_) (fun hc14 hF => ?_)
          · first | (replace hc14 := of_decide_eq_true hc14) | (replace hc14 := of_decide_eq_false (bnot_t hc14)) | (subst hc14) | (replace hc14 := bnot_t hc14; subst hc14) | (replace hc14 := bnot_t hc14) | skip
            refine seq_yl hF (wn_t hF rfl rfl rfl rfl) rfl rfl (yl_fieldAddr hF rfl rfl (fun w => by kernel_rfl : ∀ w, (Instr.fieldAt 27 (.pointer (some ⟨g7, 0, none⟩)) 2).run Try.prog w = .ok (.pointer (some ⟨g7, 2, none⟩)) w)) ?_
            clear hF; intro a hF
            refine seq_yl hF (wn_t hF rfl rfl rfl rfl) rfl rfl (yl_load (fun _ h => h ▸ hS) hF rfl rfl 1 rfl ag3 rfl) ?_
            clear hF; intro a hF
            refine seq_yl hF (wn_t hF rfl rfl rfl rfl) rfl rfl (yl_bin hF rfl rfl rfl rfl (fun _ => run_geq)) ?_
            clear hF; intro a hF
            refine seq_yl hF (wn_none rfl) rfl rfl (yl_pick (u := _) (v := undef) hF rfl rfl (fun _ => rfl) (fun h => by cases h)) ?_
            clear hF; intro a hF
            refine seq_yl hF (wn_none rfl) rfl rfl (yl_move hF rfl rfl) ?_
            clear hF; intro a hF
            refine fr_split hF (fun hc15 hF => ?_) (fun hc15 hF => ?_)
            · first | (replace hc15 := of_decide_eq_true hc15) | (replace hc15 := of_decide_eq_false (bnot_t hc15)) | (subst hc15) | (replace hc15 := bnot_t hc15; subst hc15) | (replace hc15 := bnot_t hc15) | skip
              refine seq_yl hF (wn_t hF rfl rfl rfl rfl) rfl rfl (yl_fieldAddr hF rfl rfl (fun w => by kernel_rfl : ∀ w, (Instr.fieldAt 27 (.pointer (some ⟨g7, 0, none⟩)) 2).run Try.prog w = .ok (.pointer (some ⟨g7, 2, none⟩)) w)) ?_
              clear hF; intro a hF
              refine seq_yl hF (wn_t hF rfl rfl rfl rfl) rfl rfl (yl_load (fun _ h => h ▸ hS) hF rfl rfl 1 rfl ag3 rfl) ?_
              clear hF; intro a hF
              refine seq_yl hF (wn_t hF rfl rfl rfl rfl) rfl rfl (yl_fieldAddr hF rfl rfl (fun w => by kernel_rfl : ∀ w, (Instr.fieldAt 27 (.pointer (some ⟨g7, 0, none⟩)) 1).run Try.prog w = .ok (.pointer (some ⟨g7, 1, none⟩)) w)) ?_
              clear hF; intro a hF
              refine seq_yl hF (wn_t hF rfl rfl rfl rfl) rfl rfl (yl_load (fun _ h => h ▸ hS) hF rfl rfl 1 rfl ag3 rfl) ?_
              clear hF; intro a hF
              refine seq_yl hF (wn_t hF rfl rfl rfl rfl) rfl rfl (yl_bin hF rfl rfl rfl rfl (fun _ => run_leq)) ?_
              clear hF; intro a hF
              refine seq_yl hF (wn_none rfl) rfl rfl (yl_pick (u := _) (v := undef) hF rfl rfl (fun _ => rfl) (fun h => by cases h)) ?_
              clear hF; intro a hF
              refine seq_yl hF (wn_none rfl) rfl rfl (yl_assign hF rfl rfl) ?_
              clear hF; intro a hF
              refine wpList_nil ?_
              refine then_n ?_
              refine wp_ret ?_
              refine ret_t hF rfl rfl ?_
              exact ⟨_, rfl, congrArg Value.bool (by first | exact chk_all (by have h9 := hinv.2; rwa [List.take_of_length_le (by omega)] at h9) (by simp only [decide_eq_true_eq, decide_eq_false_iff_not, Bool.false_eq, Bool.true_eq, decide_eq_decide, true_iff, false_iff] ; omega) | exact chk_few (by omega)), (hS.sub [] (by decide) (by first | rfl | simp) (by simp))⟩
            · first | (replace hc15 := of_decide_eq_false hc15) | (replace hc15 := of_decide_eq_true (bnot_f hc15)) | (subst hc15) | (replace hc15 := bnot_f hc15; subst hc15) | (replace hc15 := bnot_f hc15) | skip
              refine seq_skip hF (wn_f hF rfl rfl rfl rfl) rfl rfl ?_
              clear hF; intro a hF
              refine seq_skip hF (wn_f hF rfl rfl rfl rfl) rfl rfl ?_
              clear hF; intro a hF
              refine seq_skip hF (wn_f hF rfl rfl rfl rfl) rfl rfl ?_
              clear hF; intro a hF
              refine seq_skip hF (wn_f hF rfl rfl rfl rfl) rfl rfl ?_
              clear hF; intro a hF
              refine seq_skip hF (wn_f hF rfl rfl rfl rfl) rfl rfl ?_
              clear hF; intro a hF
              refine seq_yl hF (wn_none rfl) rfl rfl (yl_pick (u := _) (v := undef) hF rfl rfl (fun h => by cases h) (fun _ => rfl)) ?_
              clear hF; intro a hF
              refine seq_yl hF (wn_none rfl) rfl rfl (yl_assign hF rfl rfl) ?_
              clear hF; intro a hF
              refine wpList_nil ?_
              refine then_n ?_
              refine wp_ret ?_
              refine ret_t hF rfl rfl ?_
              exact ⟨_, rfl, congrArg Value.bool (by first | exact chk_all (by have h9 := hinv.2; rwa [List.take_of_length_le (by omega)] at h9) (by simp only [decide_eq_true_eq, decide_eq_false_iff_not, Bool.false_eq, Bool.true_eq, decide_eq_decide, true_iff, false_iff] ; omega) | exact chk_few (by omega)), (hS.sub [] (by decide) (by first | rfl | simp) (by simp))⟩
          · first | (replace hc14 := of_decide_eq_false hc14) | (replace hc14 := of_decide_eq_true (bnot_f hc14)) | (subst hc14) | (replace hc14 := bnot_f hc14; subst hc14) | (replace hc14 := bnot_f hc14) | skip
            refine seq_skip hF (wn_f hF rfl rfl rfl rfl) rfl rfl ?_
            clear hF; intro a hF
            refine seq_skip hF (wn_f hF rfl rfl rfl rfl) rfl rfl ?_
            clear hF; intro a hF
            refine seq_skip hF (wn_f hF rfl rfl rfl rfl) rfl rfl ?_
            clear hF; intro a hF
            refine seq_yl hF (wn_none rfl) rfl rfl (yl_pick (u := _) (v := undef) hF rfl rfl (fun h => by cases h) (fun _ => rfl)) ?_
            clear hF; intro a hF
            refine seq_yl hF (wn_none rfl) rfl rfl (yl_move hF rfl rfl) ?_
            clear hF; intro a hF
            refine seq_skip hF (wn_f hF rfl rfl rfl rfl) rfl rfl ?_
            clear hF; intro a hF
            refine seq_skip hF (wn_f hF rfl rfl rfl rfl) rfl rfl ?_
            clear hF; intro a hF
            refine seq_skip hF (wn_f hF rfl rfl rfl rfl) rfl rfl ?_
            clear hF; intro a hF
            refine seq_skip hF (wn_f hF rfl rfl rfl rfl) rfl rfl ?_
            clear hF; intro a hF
            refine seq_skip hF (wn_f hF rfl rfl rfl rfl) rfl rfl ?_
            clear hF; intro a hF
            refine seq_yl hF (wn_none rfl) rfl rfl (yl_pick (u := _) (v := undef) hF rfl rfl (fun h => by cases h) (fun _ => rfl)) ?_
            clear hF; intro a hF
            refine seq_yl hF (wn_none rfl) rfl rfl (yl_assign hF rfl rfl) ?_
            clear hF; intro a hF
            refine wpList_nil ?_
            refine then_n ?_
            refine wp_ret ?_
            refine ret_t hF rfl rfl ?_
            exact ⟨_, rfl, congrArg Value.bool (by first | exact chk_all (by have h9 := hinv.2; rwa [List.take_of_length_le (by omega)] at h9) (by simp only [decide_eq_true_eq, decide_eq_false_iff_not, Bool.false_eq, Bool.true_eq, decide_eq_decide, true_iff, false_iff] ; omega) | exact chk_few (by omega)), (hS.sub [] (by decide) (by first | rfl | simp) (by simp))⟩
        · first | (replace hc13 := of_decide_eq_false hc13) | (replace hc13 := of_decide_eq_true (bnot_f hc13)) | (subst hc13) | (replace hc13 := bnot_f hc13; subst hc13) | (replace hc13 := bnot_f hc13) | skip
          refine seq_skip hF (wn_f hF rfl rfl rfl rfl) rfl rfl ?_
          clear hF; intro a hF
          refine seq_skip hF (wn_f hF rfl rfl rfl rfl) rfl rfl ?_
          clear hF; intro a hF
          refine seq_skip hF (wn_f hF rfl rfl rfl rfl) rfl rfl ?_
          clear hF; intro a hF
          refine seq_yl hF (wn_none rfl) rfl rfl (yl_pick (u := _) (v := undef) hF rfl rfl (fun h => by cases h) (fun _ => rfl)) ?_
          clear hF; intro a hF
          refine seq_yl hF (wn_none rfl) rfl rfl (yl_move hF rfl rfl) ?_
          clear hF; intro a hF
          refine seq_skip hF (wn_f hF rfl rfl rfl rfl) rfl rfl ?_
          clear hF; intro a hF
          refine seq_skip hF (wn_f hF rfl rfl rfl rfl) rfl rfl ?_
          clear hF; intro a hF
          refine seq_skip hF (wn_f hF rfl rfl rfl rfl) rfl rfl ?_
          clear hF; intro a hF
          refine seq_yl hF (wn_none rfl) rfl rfl (yl_pick (u := _) (v := undef) hF rfl rfl (fun h => by cases h) (fun _ => rfl)) ?_
          clear hF; intro a hF
          refine seq_yl hF (wn_none rfl) rfl rfl (yl_move hF rfl rfl) ?_
          clear hF; intro a hF
          refine seq_skip hF (wn_f hF rfl rfl rfl rfl) rfl rfl ?_
          clear hF; intro a hF
          refine seq_skip hF (wn_f hF rfl rfl rfl rfl) rfl rfl ?_
          clear hF; intro a hF
          refine seq_skip hF (wn_f hF rfl rfl rfl rfl) rfl rfl ?_
          clear hF; intro a hF
          refine seq_skip hF (wn_f hF rfl rfl rfl rfl) rfl rfl ?_
          clear hF; intro a hF
          refine seq_skip hF (wn_f hF rfl rfl rfl rfl) rfl rfl ?_
          clear hF; intro a hF
          refine seq_yl hF (wn_none rfl) rfl rfl (yl_pick (u := _) (v := undef) hF rfl rfl (fun h => by cases h) (fun _ => rfl)) ?_
          clear hF; intro a hF
          refine seq_yl hF (wn_none rfl) rfl rfl (yl_assign hF rfl rfl) ?_
          clear hF; intro a hF
          refine wpList_nil ?_
          refine then_n ?_
          refine wp_ret ?_
          refine ret_t hF rfl rfl ?_
          exact ⟨_, rfl, congrArg Value.bool (by first | exact chk_all (by have h9 := hinv.2; rwa [List.take_of_length_le (by omega)] at h9) (by simp only [decide_eq_true_eq, decide_eq_false_iff_not, Bool.false_eq, Bool.true_eq, decide_eq_decide, true_iff, false_iff] ; omega) | exact chk_few (by omega)), (hS.sub [] (by decide) (by first | rfl | simp) (by simp))⟩
      · first | (replace hc12 := of_decide_eq_false hc12) | (replace hc12 := of_decide_eq_true (bnot_f hc12)) | (subst hc12) | (replace hc12 := bnot_f hc12; subst hc12) | (replace hc12 := bnot_f hc12) | skip
        refine seq_skip hF (wn_f hF rfl rfl rfl rfl) rfl rfl ?_
        clear hF; intro a hF
        refine seq_skip hF (wn_f hF rfl rfl rfl rfl) rfl rfl ?_
        clear hF; intro a hF
        refine seq_skip hF (wn_f hF rfl rfl rfl rfl) rfl rfl ?_
        clear hF; intro a hF
        refine seq_skip hF (wn_f hF rfl rfl rfl rfl) rfl rfl ?_
        clear hF; intro a hF
        refine seq_yl hF (wn_none rfl) rfl rfl (yl_pick (u := _) (v := undef) hF rfl rfl (fun h => by cases h) (fun _ => rfl)) ?_
        clear hF; intro a hF
        refine seq_yl hF (wn_none rfl) rfl rfl (yl_move hF rfl rfl) ?_
        clear hF; intro a hF
        refine seq_skip hF (wn_f hF rfl rfl rfl rfl) rfl rfl ?_
        clear hF; intro a hF
        refine seq_skip hF (wn_f hF rfl rfl rfl rfl) rfl rfl ?_
        clear hF; intro a hF
        refine seq_skip hF (wn_f hF rfl rfl rfl rfl) rfl rfl ?_
        clear hF; intro a hF
        refine seq_yl hF (wn_none rfl) rfl rfl (yl_pick (u := _) (v := undef) hF rfl rfl (fun h => by cases h) (fun _ => rfl)) ?_
        clear hF; intro a hF
        refine seq_yl hF (wn_none rfl) rfl rfl (yl_move hF rfl rfl) ?_
        clear hF; intro a hF
        refine seq_skip hF (wn_f hF rfl rfl rfl rfl) rfl rfl ?_
        clear hF; intro a hF
        refine seq_skip hF (wn_f hF rfl rfl rfl rfl) rfl rfl ?_
        clear hF; intro a hF
        refine seq_skip hF (wn_f hF rfl rfl rfl rfl) rfl rfl ?_
        clear hF; intro a hF
        refine seq_yl hF (wn_none rfl) rfl rfl (yl_pick (u := _) (v := undef) hF rfl rfl (fun h => by cases h) (fun _ => rfl)) ?_
        clear hF; intro a hF
        refine seq_yl hF (wn_none rfl) rfl rfl (yl_move hF rfl rfl) ?_
        clear hF; intro a hF
        refine seq_skip hF (wn_f hF rfl rfl rfl rfl) rfl rfl ?_
        clear hF; intro a hF
        refine seq_skip hF (wn_f hF rfl rfl rfl rfl) rfl rfl ?_
        clear hF; intro a hF
        refine seq_skip hF (wn_f hF rfl rfl rfl rfl) rfl rfl ?_
        clear hF; intro a hF
        refine seq_skip hF (wn_f hF rfl rfl rfl rfl) rfl rfl ?_
        clear hF; intro a hF
        refine seq_skip hF (wn_f hF rfl rfl rfl rfl) rfl rfl ?_
        clear hF; intro a hF
        refine seq_yl hF (wn_none rfl) rfl rfl (yl_pick (u := _) (v := undef) hF rfl rfl (fun h => by cases h) (fun _ => rfl)) ?_
        clear hF; intro a hF
        refine seq_yl hF (wn_none rfl) rfl rfl (yl_assign hF rfl rfl) ?_
        clear hF; intro a hF
        refine wpList_nil ?_
        refine then_n ?_
        refine wp_ret ?_
        refine ret_t hF rfl rfl ?_
        exact ⟨_, rfl, congrArg Value.bool (by first | exact chk_all (by have h9 := hinv.2; rwa [List.take_of_length_le (by omega)] at h9) (by simp only [decide_eq_true_eq, decide_eq_false_iff_not, Bool.false_eq, Bool.true_eq, decide_eq_decide, true_iff, false_iff] ; omega) | exact chk_few (by omega)), (hS.sub [] (by decide) (by first | rfl | simp) (by simp))⟩

theorem check2_any (v : Value) (L : List Int) (p q : Int) (w0 : World) (hv : Rd w0 1 v (L).length (cells encI (L))) (hL : L.length ≤ 1000000) :
    Fn Try.prog 15 #[.agg #[v, .int .i64 p, .int .i64 q]] w0 (fun v w' => v = .bool (chkF L p q) ∧ Sat w0 w' []) := by
  obtain ⟨Av, cv, rfl⟩ := Rd.form hv
  refine c_enter (N := 57) (l := [_]) Try.func15 rfl rfl (fun a w hF hS => ?_)
  replace hS := hS.addRo hv
  refine c_seq ?_
  refine c_region ?_
  refine seq_wp (wn_none rfl) (wp_box (cs := #[_, _, _]) hF hS rfl rfl rfl rfl rfl ?_)
  clear hF hS; intro a w g16 hF hS
  refine seq_yl hF (wn_none rfl) rfl rfl (yl_assign hF rfl rfl) ?_
  clear hF; intro a hF
  refine wpList_nil ?_
  refine then_n ?_
  refine c_seq ?_
  refine c_seq ?_
  refine c_region ?_
  refine seq_yl hF (wn_none rfl) rfl rfl (yl_fieldAddr hF rfl rfl (fun w => by kernel_rfl : ∀ w, (Instr.fieldAt 27 (.pointer (some ⟨g16, 0, none⟩)) 0).run Try.prog w = .ok (.pointer (some ⟨g16, 0, none⟩)) w)) ?_
  clear hF; intro a hF
  refine seq_yl hF (wn_none rfl) rfl rfl (yl_load (fun _ h => h ▸ hS) hF rfl rfl 0 rfl ag22 rfl) ?_
  clear hF; intro a hF
  refine seq_yl hF (wn_none rfl) rfl rfl (yl_len hF rfl rfl (fun _ => run_lenRd sl22 (hS.rdRo 1 rfl))) ?_
  clear hF; intro a hF
  refine seq_yl hF (wn_none rfl) rfl rfl (yl_bin hF rfl rfl rfl rfl (fun _ => run_lss)) ?_
  clear hF; intro a hF
  refine seq_yl hF (wn_none rfl) rfl rfl (yl_move hF rfl rfl) ?_
  clear hF; intro a hF
  refine fr_split hF (fun hc17 hF => ?_) (fun hc17 hF => ?_)
  · first | (replace hc17 := of_decide_eq_true hc17) | (replace hc17 := of_decide_eq_false (bnot_t hc17)) | (subst hc17) | (replace hc17 := bnot_t hc17; subst hc17) | (replace hc17 := bnot_t hc17) | skip
    refine seq_skip hF (wn_f hF rfl rfl rfl rfl) rfl rfl ?_
    clear hF; intro a hF
    refine seq_skip hF (wn_f hF rfl rfl rfl rfl) rfl rfl ?_
    clear hF; intro a hF
    refine seq_skip hF (wn_f hF rfl rfl rfl rfl) rfl rfl ?_
    clear hF; intro a hF
    refine seq_skip hF (wn_f hF rfl rfl rfl rfl) rfl rfl ?_
    clear hF; intro a hF
    refine seq_yl hF (wn_none rfl) rfl rfl (yl_pick (u := _) (v := undef) hF rfl rfl (fun _ => rfl) (fun h => by cases h)) ?_
    clear hF; intro a hF
    refine seq_yl hF (wn_none rfl) rfl rfl (yl_move hF rfl rfl) ?_
    clear hF; intro a hF
    refine seq_skip hF (wn_f hF rfl rfl rfl rfl) rfl rfl ?_
    clear hF; intro a hF
    refine seq_skip hF (wn_f hF rfl rfl rfl rfl) rfl rfl ?_
    clear hF; intro a hF
    refine seq_skip hF (wn_f hF rfl rfl rfl rfl) rfl rfl ?_
    clear hF; intro a hF
    refine seq_yl hF (wn_none rfl) rfl rfl (yl_pick (u := _) (v := undef) hF rfl rfl (fun _ => rfl) (fun h => by cases h)) ?_
    clear hF; intro a hF
    refine seq_yl hF (wn_none rfl) rfl rfl (yl_move hF rfl rfl) ?_
    clear hF; intro a hF
    refine seq_skip hF (wn_f hF rfl rfl rfl rfl) rfl rfl ?_
    clear hF; intro a hF
    refine seq_skip hF (wn_f hF rfl rfl rfl rfl) rfl rfl ?_
    clear hF; intro a hF
    refine seq_skip hF (wn_f hF rfl rfl rfl rfl) rfl rfl ?_
    clear hF; intro a hF
    refine seq_yl hF (wn_none rfl) rfl rfl (yl_pick (u := _) (v := undef) hF rfl rfl (fun _ => rfl) (fun h => by cases h)) ?_
    clear hF; intro a hF
    refine seq_yl hF (wn_none rfl) rfl rfl (yl_move hF rfl rfl) ?_
    clear hF; intro a hF
    refine seq_skip hF (wn_f hF rfl rfl rfl rfl) rfl rfl ?_
    clear hF; intro a hF
    refine seq_skip hF (wn_f hF rfl rfl rfl rfl) rfl rfl ?_
    clear hF; intro a hF
    refine seq_skip hF (wn_f hF rfl rfl rfl rfl) rfl rfl ?_
    clear hF; intro a hF
    refine seq_yl hF (wn_none rfl) rfl rfl (yl_pick (u := _) (v := undef) hF rfl rfl (fun _ => rfl) (fun h => by cases h)) ?_
    clear hF; intro a hF
    refine seq_yl hF (wn_none rfl) rfl rfl (yl_move hF rfl rfl) ?_
    clear hF; intro a hF
    refine seq_skip hF (wn_f hF rfl rfl rfl rfl) rfl rfl ?_
    clear hF; intro a hF
    refine seq_skip hF (wn_f hF rfl rfl rfl rfl) rfl rfl ?_
    clear hF; intro a hF
    refine seq_skip hF (wn_f hF rfl rfl rfl rfl) rfl rfl ?_
    clear hF; intro a hF
    refine seq_skip hF (wn_f hF rfl rfl rfl rfl) rfl rfl ?_
    clear hF; intro a hF
    refine seq_skip hF (wn_f hF rfl rfl rfl rfl) rfl rfl ?_
    clear hF; intro a hF
    refine seq_yl hF (wn_none rfl) rfl rfl (yl_pick (u := _) (v := undef) hF rfl rfl (fun _ => rfl) (fun h => by cases h)) ?_
    clear hF; intro a hF
    refine wpList_nil ?_
    refine then_n ?_
    refine c_cond_t hF rfl ?_
    refine c_seq ?_
    refine c_region ?_
    refine seq_yl hF (wn_none rfl) rfl rfl (yl_assign hF rfl rfl) ?_
    clear hF; intro a hF
    refine wpList_nil ?_
    refine then_n ?_
    refine wp_ret ?_
    refine then_r ?_
    refine ret_t hF rfl rfl ?_
    exact ⟨_, rfl, congrArg Value.bool (by first | exact chk_all (by have h9 := hinv.2; rwa [List.take_of_length_le (by omega)] at h9) (by simp only [decide_eq_true_eq, decide_eq_false_iff_not, Bool.false_eq, Bool.true_eq, decide_eq_decide, true_iff, false_iff] ; omega) | exact chk_few (by omega)), (hS.sub [] (by decide) (by first | rfl | simp) (by simp))⟩
  · first | (replace hc17 := of_decide_eq_false hc17) | (replace hc17 := of_decide_eq_true (bnot_f hc17)) | (subst hc17) | (replace hc17 := bnot_f hc17; subst hc17) | (replace hc17 := bnot_f hc17) | skip
    refine seq_yl hF (wn_t hF rfl rfl rfl rfl) rfl rfl (yl_fieldAddr hF rfl rfl (fun w => by kernel_rfl : ∀ w, (Instr.fieldAt 27 (.pointer (some ⟨g16, 0, none⟩)) 0).run Try.prog w = .ok (.pointer (some ⟨g16, 0, none⟩)) w)) ?_
    clear hF; intro a hF
    refine seq_yl hF (wn_t hF rfl rfl rfl rfl) rfl rfl (yl_load (fun _ h => h ▸ hS) hF rfl rfl 0 rfl ag22 rfl) ?_
    clear hF; intro a hF
    refine seq_yl hF (wn_t hF rfl rfl rfl rfl) rfl rfl (yl_len hF rfl rfl (fun _ => run_lenRd sl22 (hS.rdRo 1 rfl))) ?_
    clear hF; intro a hF
    refine seq_yl hF (wn_t hF rfl rfl rfl rfl) rfl rfl (yl_bin hF rfl rfl rfl rfl (fun _ => run_gtr)) ?_
    clear hF; intro a hF
    refine seq_yl hF (wn_none rfl) rfl rfl (yl_pick (u := _) (v := undef) hF rfl rfl (fun h => by cases h) (fun _ => rfl)) ?_
    clear hF; intro a hF
    refine seq_yl hF (wn_none rfl) rfl rfl (yl_move hF rfl rfl) ?_
    clear hF; intro a hF
    refine fr_split hF (fun hc18 hF => ?_) (fun hc18 hF => ?_)
    · first | (replace hc18 := of_decide_eq_true hc18) | (replace hc18 := of_decide_eq_false (bnot_t hc18)) | (subst hc18) | (replace hc18 := bnot_t hc18; subst hc18) | (replace hc18 := bnot_t hc18) | skip
      refine seq_skip hF (wn_f hF rfl rfl rfl rfl) rfl rfl ?_
      clear hF; intro a hF
      refine seq_skip hF (wn_f hF rfl rfl rfl rfl) rfl rfl ?_
      clear hF; intro a hF
      refine seq_skip hF (wn_f hF rfl rfl rfl rfl) rfl rfl ?_
      clear hF; intro a hF
      refine seq_yl hF (wn_none rfl) rfl rfl (yl_pick (u := _) (v := undef) hF rfl rfl (fun _ => rfl) (fun h => by cases h)) ?_
      clear hF; intro a hF
      refine seq_yl hF (wn_none rfl) rfl rfl (yl_move hF rfl rfl) ?_
      clear hF; intro a hF
      refine seq_skip hF (wn_f hF rfl rfl rfl rfl) rfl rfl ?_
      clear hF; intro a hF
      refine seq_skip hF (wn_f hF rfl rfl rfl rfl) rfl rfl ?_
      clear hF; intro a hF
      refine seq_skip hF (wn_f hF rfl rfl rfl rfl) rfl rfl ?_
      clear hF; intro a hF
      refine seq_yl hF (wn_none rfl) rfl rfl (yl_pick (u := _) (v := undef) hF rfl rfl (fun _ => rfl) (fun h => by cases h)) ?_
      clear hF; intro a hF
      refine seq_yl hF (wn_none rfl) rfl rfl (yl_move hF rfl rfl) ?_
      clear hF; intro a hF
      refine seq_skip hF (wn_f hF rfl rfl rfl rfl) rfl rfl ?_
      clear hF; intro a hF
      refine seq_skip hF (wn_f hF rfl rfl rfl rfl) rfl rfl ?_
      clear hF; intro a hF
      refine seq_skip hF (wn_f hF rfl rfl rfl rfl) rfl rfl ?_
      clear hF; intro a hF
      refine seq_yl hF (wn_none rfl) rfl rfl (yl_pick (u := _) (v := undef) hF rfl rfl (fun _ => rfl) (fun h => by cases h)) ?_
      clear hF; intro a hF
      refine seq_yl hF (wn_none rfl) rfl rfl (yl_move hF rfl rfl) ?_
      clear hF; intro a hF
      refine seq_skip hF (wn_f hF rfl rfl rfl rfl) rfl rfl ?_
      clear hF; intro a hF
      refine seq_skip hF (wn_f hF rfl rfl rfl rfl) rfl rfl ?_
      clear hF; intro a hF
      refine seq_skip hF (wn_f hF rfl rfl rfl rfl) rfl rfl ?_
      clear hF; intro a hF
      refine seq_skip hF (wn_f hF rfl rfl rfl rfl) rfl rfl ?_
      clear hF; intro a hF
      refine seq_skip hF (wn_f hF rfl rfl rfl rfl) rfl rfl ?_
      clear hF; intro a hF
      refine seq_yl hF (wn_none rfl) rfl rfl (yl_pick (u := _) (v := undef) hF rfl rfl (fun _ => rfl) (fun h => by cases h)) ?_
      clear hF; intro a hF
      refine wpList_nil ?_
      refine then_n ?_
      refine c_cond_t hF rfl ?_
      refine c_seq ?_
      refine c_region ?_
      refine seq_yl hF (wn_none rfl) rfl rfl (yl_assign hF rfl rfl) ?_
      clear hF; intro a hF
      refine wpList_nil ?_
      refine then_n ?_
      refine wp_ret ?_
      refine then_r ?_
      refine ret_t hF rfl rfl ?_
      exact ⟨_, rfl, congrArg Value.bool (by first | exact chk_all (by have h9 := hinv.2; rwa [List.take_of_length_le (by omega)] at h9) (by simp only [decide_eq_true_eq, decide_eq_false_iff_not, Bool.false_eq, Bool.true_eq, decide_eq_decide, true_iff, false_iff] ; omega) | exact chk_few (by omega)), (hS.sub [] (by decide) (by first | rfl | simp) (by simp))⟩
    · first | (replace hc18 := of_decide_eq_false hc18) | (replace hc18 := of_decide_eq_true (bnot_f hc18)) | (subst hc18) | (replace hc18 := bnot_f hc18; subst hc18) | (replace hc18 := bnot_f hc18) | skip
      refine seq_yl hF (wn_t hF rfl rfl rfl rfl) rfl rfl (yl_fieldAddr hF rfl rfl (fun w => by kernel_rfl : ∀ w, (Instr.fieldAt 27 (.pointer (some ⟨g16, 0, none⟩)) 1).run Try.prog w = .ok (.pointer (some ⟨g16, 1, none⟩)) w)) ?_
      clear hF; intro a hF
      refine seq_yl hF (wn_t hF rfl rfl rfl rfl) rfl rfl (yl_load (fun _ h => h ▸ hS) hF rfl rfl 0 rfl ag3 rfl) ?_
      clear hF; intro a hF
      refine seq_yl hF (wn_t hF rfl rfl rfl rfl) rfl rfl (yl_bin hF rfl rfl rfl rfl (fun _ => run_lss)) ?_
      clear hF; intro a hF
      refine seq_yl hF (wn_none rfl) rfl rfl (yl_pick (u := _) (v := undef) hF rfl rfl (fun h => by cases h) (fun _ => rfl)) ?_
      clear hF; intro a hF
      refine seq_yl hF (wn_none rfl) rfl rfl (yl_move hF rfl rfl) ?_
      clear hF; intro a hF
      refine fr_split hF (fun hc19 hF => ?_) (fun hc19 hF => ?_)
      · first | (replace hc19 := of_decide_eq_true hc19) | (replace hc19 := of_decide_eq_false (bnot_t hc19)) | (subst hc19) | (replace hc19 := bnot_t hc19; subst hc19) | (replace hc19 := bnot_t hc19) | skip
        refine seq_skip hF (wn_f hF rfl rfl rfl rfl) rfl rfl ?_
        clear hF; intro a hF
        refine seq_skip hF (wn_f hF rfl rfl rfl rfl) rfl rfl ?_
        clear hF; intro a hF
        refine seq_skip hF (wn_f hF rfl rfl rfl rfl) rfl rfl ?_
        clear hF; intro a hF
        refine seq_yl hF (wn_none rfl) rfl rfl (yl_pick (u := _) (v := undef) hF rfl rfl (fun _ => rfl) (fun h => by cases h)) ?_
        clear hF; intro a hF
        refine seq_yl hF (wn_none rfl) rfl rfl (yl_move hF rfl rfl) ?_
        clear hF; intro a hF
        refine seq_skip hF (wn_f hF rfl rfl rfl rfl) rfl rfl ?_
        clear hF; intro a hF
        refine seq_skip hF (wn_f hF rfl rfl rfl rfl) rfl rfl ?_
        clear hF; intro a hF
        refine seq_skip hF (wn_f hF rfl rfl rfl rfl) rfl rfl ?_
        clear hF; intro a hF
        refine seq_yl hF (wn_none rfl) rfl rfl (yl_pick (u := _) (v := undef) hF rfl rfl (fun _ => rfl) (fun h => by cases h)) ?_
        clear hF; intro a hF
        refine seq_yl hF (wn_none rfl) rfl rfl (yl_move hF rfl rfl) ?_
        clear hF; intro a hF
        refine seq_skip hF (wn_f hF rfl rfl rfl rfl) rfl rfl ?_
        clear hF; intro a hF
        refine seq_skip hF (wn_f hF rfl rfl rfl rfl) rfl rfl ?_
        clear hF; intro a hF
        refine seq_skip hF (wn_f hF rfl rfl rfl rfl) rfl rfl ?_
        clear hF; intro a hF
        refine seq_skip hF (wn_f hF rfl rfl rfl rfl) rfl rfl ?_
        clear hF; intro a hF
        refine seq_skip hF (wn_f hF rfl rfl rfl rfl) rfl rfl ?_
        clear hF; intro a hF
        refine seq_yl hF (wn_none rfl) rfl rfl (yl_pick (u := _) (v := undef) hF rfl rfl (fun _ => rfl) (fun h => by cases h)) ?_
        clear hF; intro a hF
        refine wpList_nil ?_
        refine then_n ?_
        refine c_cond_t hF rfl ?_
        refine c_seq ?_
        refine c_region ?_
        refine seq_yl hF (wn_none rfl) rfl rfl (yl_assign hF rfl rfl) ?_
        clear hF; intro a hF
        refine wpList_nil ?_
        refine then_n ?_
        refine wp_ret ?_
        refine then_r ?_
        refine ret_t hF rfl rfl ?_
        exact ⟨_, rfl, congrArg Value.bool (by first | exact chk_all (by have h9 := hinv.2; rwa [List.take_of_length_le (by omega)] at h9) (by simp only [decide_eq_true_eq, decide_eq_false_iff_not, Bool.false_eq, Bool.true_eq, decide_eq_decide, true_iff, false_iff] ; omega) | exact chk_few (by omega)), (hS.sub [] (by decide) (by first | rfl | simp) (by simp))⟩
      · first | (replace hc19 := of_decide_eq_false hc19) | (replace hc19 := of_decide_eq_true (bnot_f hc19)) | (subst hc19) | (replace hc19 := bnot_f hc19; subst hc19) | (replace hc19 := bnot_f hc19) | skip
        refine seq_yl hF (wn_t hF rfl rfl rfl rfl) rfl rfl (yl_fieldAddr hF rfl rfl (fun w => by kernel_rfl : ∀ w, (Instr.fieldAt 27 (.pointer (some ⟨g16, 0, none⟩)) 1).run Try.prog w = .ok (.pointer (some ⟨g16, 1, none⟩)) w)) ?_
        clear hF; intro a hF
        refine seq_yl hF (wn_t hF rfl rfl rfl rfl) rfl rfl (yl_load (fun _ h => h ▸ hS) hF rfl rfl 0 rfl ag3 rfl) ?_
        clear hF; intro a hF
        refine seq_yl hF (wn_t hF rfl rfl rfl rfl) rfl rfl (yl_bin hF rfl rfl rfl rfl (fun _ => run_gtr)) ?_
        clear hF; intro a hF
        refine seq_yl hF (wn_none rfl) rfl rfl (yl_pick (u := _) (v := undef) hF rfl rfl (fun h => by cases h) (fun _ => rfl)) ?_
        clear hF; intro a hF
        refine seq_yl hF (wn_none rfl) rfl rfl (yl_move hF rfl rfl) ?_
        clear hF; intro a hF
        refine fr_split hF (fun hc20 hF => ?_) (fun hc20 hF => ?_)
        · first | (replace hc20 := of_decide_eq_true hc20) | (replace hc20 := of_decide_eq_false (bnot_t hc20)) | (subst hc20) | (replace hc20 := bnot_t hc20; subst hc20) | (replace hc20 := bnot_t hc20) | skip
          refine seq_skip hF (wn_f hF rfl rfl rfl rfl) rfl rfl ?_
          clear hF; intro a hF
          refine seq_skip hF (wn_f hF rfl rfl rfl rfl) rfl rfl ?_
          clear hF; intro a hF
          refine seq_skip hF (wn_f hF rfl rfl rfl rfl) rfl rfl ?_
          clear hF; intro a hF
          refine seq_yl hF (wn_none rfl) rfl rfl (yl_pick (u := _) (v := undef) hF rfl rfl (fun _ => rfl) (fun h => by cases h)) ?_
          clear hF; intro a hF
          refine seq_yl hF (wn_none rfl) rfl rfl (yl_move hF rfl rfl) ?_
          clear hF; intro a hF
          refine seq_skip hF (wn_f hF rfl rfl rfl rfl) rfl rfl ?_
          clear hF; intro a hF
          refine seq_skip hF (wn_f hF rfl rfl rfl rfl) rfl rfl ?_
          clear hF; intro a hF
          refine seq_skip hF (wn_f hF rfl rfl rfl rfl) rfl rfl ?_
          clear hF; intro a hF
          refine seq_skip hF (wn_f hF rfl rfl rfl rfl) rfl rfl ?_
          clear hF; intro a hF
          refine seq_skip hF (wn_f hF rfl rfl rfl rfl) rfl rfl ?_
          clear hF; intro a hF
          refine seq_yl hF (wn_none rfl) rfl rfl (yl_pick (u := _) (v := undef) hF rfl rfl (fun _ => rfl) (fun h => by cases h)) ?_
          clear hF; intro a hF
          refine wpList_nil ?_
          refine then_n ?_
          refine c_cond_t hF rfl ?_
          refine c_seq ?_
          refine c_region ?_
          refine seq_yl hF (wn_none rfl) rfl rfl (yl_assign hF rfl rfl) ?_
          clear hF; intro a hF
          refine wpList_nil ?_
          refine then_n ?_
          refine wp_ret ?_
          refine then_r ?_
          refine ret_t hF rfl rfl ?_
          exact ⟨_, rfl, congrArg Value.bool (by first | exact chk_all (by have h9 := hinv.2; rwa [List.take_of_length_le (by omega)] at h9) (by simp only [decide_eq_true_eq, decide_eq_false_iff_not, Bool.false_eq, Bool.true_eq, decide_eq_decide, true_iff, false_iff] ; omega) | exact chk_few (by omega)), (hS.sub [] (by decide) (by first | rfl | simp) (by simp))⟩
        · first | (replace hc20 := of_decide_eq_false hc20) | (replace hc20 := of_decide_eq_true (bnot_f hc20)) | (subst hc20) | (replace hc20 := bnot_f hc20; subst hc20) | (replace hc20 := bnot_f hc20) | skip
          refine seq_yl hF (wn_t hF rfl rfl rfl rfl) rfl rfl (yl_fieldAddr hF rfl rfl (fun w => by kernel_rfl : ∀ w, (Instr.fieldAt 27 (.pointer (some ⟨g16, 0, none⟩)) 2).run Try.prog w = .ok (.pointer (some ⟨g16, 2, none⟩)) w)) ?_
          clear hF; intro a hF
          refine seq_yl hF (wn_t hF rfl rfl rfl rfl) rfl rfl (yl_load (fun _ h => h ▸ hS) hF rfl rfl 0 rfl ag3 rfl) ?_
          clear hF; intro a hF
          refine seq_yl hF (wn_t hF rfl rfl rfl rfl) rfl rfl (yl_bin hF rfl rfl rfl rfl (fun _ => run_lss)) ?_
          clear hF; intro a hF
          refine seq_yl hF (wn_none rfl) rfl rfl (yl_pick (u := _) (v := undef) hF rfl rfl (fun h => by cases h) (fun _ => rfl)) ?_
          clear hF; intro a hF
          refine seq_yl hF (wn_none rfl) rfl rfl (yl_move hF rfl rfl) ?_
          clear hF; intro a hF
          refine fr_split hF (fun hc21 hF => ?_) (fun hc21 hF => ?_)
          · first | (replace hc21 := of_decide_eq_true hc21) | (replace hc21 := of_decide_eq_false (bnot_t hc21)) | (subst hc21) | (replace hc21 := bnot_t hc21; subst hc21) | (replace hc21 := bnot_t hc21) | skip
            refine seq_skip hF (wn_f hF rfl rfl rfl rfl) rfl rfl ?_
            clear hF; intro a hF
            refine seq_skip hF (wn_f hF rfl rfl rfl rfl) rfl rfl ?_
            clear hF; intro a hF
            refine seq_skip hF (wn_f hF rfl rfl rfl rfl) rfl rfl ?_
            clear hF; intro a hF
            refine seq_skip hF (wn_f hF rfl rfl rfl rfl) rfl rfl ?_
            clear hF; intro a hF
            refine seq_skip hF (wn_f hF rfl rfl rfl rfl) rfl rfl ?_
            clear hF; intro a hF
            refine seq_yl hF (wn_none rfl) rfl rfl (yl_pick (u := _) (v := undef) hF rfl rfl (fun _ => rfl) (fun h => by cases h)) ?_
            clear hF; intro a hF
            refine wpList_nil ?_
            refine then_n ?_
            refine c_cond_t hF rfl ?_
            refine c_seq ?_
            refine c_region ?_
            refine seq_yl hF (wn_none rfl) rfl rfl (yl_assign hF rfl rfl) ?_
            clear hF; intro a hF
            refine wpList_nil ?_
            refine then_n ?_
            refine wp_ret ?_
            refine then_r ?_
            refine ret_t hF rfl rfl ?_
            exact ⟨_, rfl, congrArg Value.bool (by first | exact chk_all (by have h9 := hinv.2; rwa [List.take_of_length_le (by omega)] at h9) (by simp only [decide_eq_true_eq, decide_eq_false_iff_not, Bool.false_eq, Bool.true_eq, decide_eq_decide, true_iff, false_iff] ; omega) | exact chk_few (by omega)), (hS.sub [] (by decide) (by first | rfl | simp) (by simp))⟩
          · first | (replace hc21 := of_decide_eq_false hc21) | (replace hc21 := of_decide_eq_true (bnot_f hc21)) | (subst hc21) | (replace hc21 := bnot_f hc21; subst hc21) | (replace hc21 := bnot_f hc21) | skip
            refine seq_yl hF (wn_t hF rfl rfl rfl rfl) rfl rfl (yl_fieldAddr hF rfl rfl (fun w => by kernel_rfl : ∀ w, (Instr.fieldAt 27 (.pointer (some ⟨g16, 0, none⟩)) 2).run Try.prog w = .ok (.pointer (some ⟨g16, 2, none⟩)) w)) ?_
            clear hF; intro a hF
            refine seq_yl hF (wn_t hF rfl rfl rfl rfl) rfl rfl (yl_load (fun _ h => h ▸ hS) hF rfl rfl 0 rfl ag3 rfl) ?_
            clear hF; intro a hF
            refine seq_yl hF (wn_t hF rfl rfl rfl rfl) rfl rfl (yl_fieldAddr hF rfl rfl (fun w => by kernel_rfl : ∀ w, (Instr.fieldAt 27 (.pointer (some ⟨g16, 0, none⟩)) 1).run Try.prog w = .ok (.pointer (some ⟨g16, 1, none⟩)) w)) ?_
            clear hF; intro a hF
            refine seq_yl hF (wn_t hF rfl rfl rfl rfl) rfl rfl (yl_load (fun _ h => h ▸ hS) hF rfl rfl 0 rfl ag3 rfl) ?_
            clear hF; intro a hF
            refine seq_yl hF (wn_t hF rfl rfl rfl rfl) rfl rfl (yl_bin hF rfl rfl rfl rfl (fun _ => run_gtr)) ?_
            clear hF; intro a hF
            refine seq_yl hF (wn_none rfl) rfl rfl (yl_pick (u := _) (v := undef) hF rfl rfl (fun h => by cases h) (fun _ => rfl)) ?_
            clear hF; intro a hF
            refine wpList_nil ?_
            refine then_n ?_
            refine c_cond hF rfl (fun hc22 => ?_) (fun hc22 => ?_)
            · first | (replace hc22 := of_decide_eq_true hc22) | (replace hc22 := of_decide_eq_false (bnot_t hc22)) | (subst hc22) | (replace hc22 := bnot_t hc22; subst hc22) | (replace hc22 := bnot_t hc22) | skip
              refine c_seq ?_
              refine c_region ?_
              refine seq_yl hF (wn_none rfl) rfl rfl (yl_assign hF rfl rfl) ?_
              clear hF; intro a hF
              refine wpList_nil ?_
              refine then_n ?_
              refine wp_ret ?_
              refine then_r ?_
              refine ret_t hF rfl rfl ?_
              exact ⟨_, rfl, congrArg Value.bool (by first | exact chk_all (by have h9 := hinv.2; rwa [List.take_of_length_le (by omega)] at h9) (by simp only [decide_eq_true_eq, decide_eq_false_iff_not, Bool.false_eq, Bool.true_eq, decide_eq_decide, true_iff, false_iff] ; omega) | exact chk_few (by omega)), (hS.sub [] (by decide) (by first | rfl | simp) (by simp))⟩
            · first | (replace hc22 := of_decide_eq_false hc22) | (replace hc22 := of_decide_eq_true (bnot_f hc22)) | (subst hc22) | (replace hc22 := bnot_f hc22; subst hc22) | (replace hc22 := bnot_f hc22) | skip
              refine wp_skip ?_
              refine then_n ?_
              refine c_seq ?_
              refine c_seq ?_
              refine c_region ?_
              refine seq_yl hF (wn_none rfl) rfl rfl (yl_assign hF rfl rfl) ?_
              clear hF; intro a hF
              refine wpList_nil ?_
              refine then_n ?_
              refine wp_block ?_
              refine c_loop (fun m a w => ∃ (k : Nat), m = L.length - k ∧ (k ≤ L.length ∧ ∀ e ∈ L.take k, 0 ≤ e ∧ e ≤ 1000000) ∧ Fr 57 a [(1, .pointer (some ⟨g16, 0, none⟩)), (3, .int .i64 ((k : Nat) : Int))] ∧ Sat w0 w (.ro 1 (.slice Av (L).length cv) (L).length (cells encI (L)) :: .box g16 27 #[.slice Av (L).length cv, .int .i64 (p), .int .i64 (q)] :: [])) (L.length - 0) ?_ ?_
              · exact ⟨0, rfl, ⟨Nat.zero_le _, by simp⟩, hF.to [1, 3] rfl, (hS.sub [1, 0] (by decide) (by first | rfl | simp) (by simp))⟩
              · clear hF hS; try clear hSS
                clear a w; rintro m a w ⟨k, rfl, hinv, hF, hS⟩
                have hk := hinv.1
                refine c_seq ?_
                refine c_seq ?_
                refine c_region ?_
                refine seq_yl hF (wn_none rfl) rfl rfl (yl_move hF rfl rfl) ?_
                clear hF; intro a hF
                refine seq_yl hF (wn_none rfl) rfl rfl (yl_fieldAddr hF rfl rfl (fun w => by kernel_rfl : ∀ w, (Instr.fieldAt 27 (.pointer (some ⟨g16, 0, none⟩)) 0).run Try.prog w = .ok (.pointer (some ⟨g16, 0, none⟩)) w)) ?_
                clear hF; intro a hF
                refine seq_yl hF (wn_none rfl) rfl rfl (yl_load (fun _ h => h ▸ hS) hF rfl rfl 1 rfl ag22 rfl) ?_
                clear hF; intro a hF
                refine seq_yl hF (wn_none rfl) rfl rfl (yl_len hF rfl rfl (fun _ => run_lenRd sl22 (hS.rdRo 0 rfl))) ?_
                clear hF; intro a hF
                refine seq_yl hF (wn_none rfl) rfl rfl (yl_bin hF rfl rfl rfl rfl (fun _ => run_lss)) ?_
                clear hF; intro a hF
                refine wpList_nil ?_
                refine then_n ?_
                refine c_cond hF rfl (fun hc23 => ?_) (fun hc23 => ?_)
                · first | (replace hc23 := of_decide_eq_true hc23) | (replace hc23 := of_decide_eq_false (bnot_t hc23)) | (subst hc23) | (replace hc23 := bnot_t hc23; subst hc23) | (replace hc23 := bnot_t hc23) | skip
                  refine wp_skip ?_
                  refine then_n ?_
                  refine c_seq ?_
                  refine wp_block ?_
                  refine c_seq ?_
                  refine c_region ?_
                  refine seq_yl hF (wn_none rfl) rfl rfl (yl_fieldAddr hF rfl rfl (fun w => by kernel_rfl : ∀ w, (Instr.fieldAt 27 (.pointer (some ⟨g16, 0, none⟩)) 0).run Try.prog w = .ok (.pointer (some ⟨g16, 0, none⟩)) w)) ?_
                  clear hF; intro a hF
                  refine seq_yl hF (wn_none rfl) rfl rfl (yl_load (fun _ h => h ▸ hS) hF rfl rfl 1 rfl ag22 rfl) ?_
                  clear hF; intro a hF
                  refine seq_yl hF (wn_none rfl) rfl rfl (yl_move hF rfl rfl) ?_
                  clear hF; intro a hF
                  have hlt_hx24 : k < (L).length := by first | omega | (simp; done) | (simp; omega)
                  obtain ⟨ad25, rfl⟩ := rd_some (hS.rdRo 0 rfl) hlt_hx24
                  obtain ⟨x24, hx24⟩ := get_some hlt_hx24
                  refine seq_yl hF (wn_none rfl) rfl rfl (yl_indexAddr hF rfl rfl rfl (fun _ => run_idx' sl22 sz3 (hS.rdRo 0 rfl) hlt_hx24)) ?_
                  clear hF; intro a hF
                  refine seq_yl hF (wn_none rfl) rfl rfl (yl_loadAt hF rfl rfl ag3 (fun _ h => rd_cell0 (by subst h; exact hS.rdRo 0 rfl) encI_len hx24 rfl rfl)) ?_
                  clear hF; intro a hF
                  refine seq_yl hF (wn_none rfl) rfl rfl (yl_bin hF rfl rfl rfl rfl (fun _ => run_lss)) ?_
                  clear hF; intro a hF
                  refine seq_yl hF (wn_none rfl) rfl rfl (yl_move hF rfl rfl) ?_
                  clear hF; intro a hF
                  refine fr_split hF (fun hc26 hF => ?_) (fun hc26 hF => ?_)
                  · first | (replace hc26 := of_decide_eq_true hc26) | (replace hc26 := of_decide_eq_false (bnot_t hc26)) | (subst hc26) | (replace hc26 := bnot_t hc26; subst hc26) | (replace hc26 := bnot_t hc26) | skip
                    refine seq_skip hF (wn_f hF rfl rfl rfl rfl) rfl rfl ?_
                    clear hF; intro a hF
                    refine seq_skip hF (wn_f hF rfl rfl rfl rfl) rfl rfl ?_
                    clear hF; intro a hF
                    refine seq_skip hF (wn_f hF rfl rfl rfl rfl) rfl rfl ?_
                    clear hF; intro a hF
                    refine seq_skip hF (wn_f hF rfl rfl rfl rfl) rfl rfl ?_
                    clear hF; intro a hF
                    refine seq_skip hF (wn_f hF rfl rfl rfl rfl) rfl rfl ?_
                    clear hF; intro a hF
                    refine seq_skip hF (wn_f hF rfl rfl rfl rfl) rfl rfl ?_
                    clear hF; intro a hF
                    refine seq_yl hF (wn_none rfl) rfl rfl (yl_pick (u := _) (v := undef) hF rfl rfl (fun _ => rfl) (fun h => by cases h)) ?_
                    clear hF; intro a hF
                    refine wpList_nil ?_
                    refine then_n ?_
                    refine c_cond_t hF rfl ?_
                    refine c_seq ?_
                    refine c_region ?_
                    refine seq_yl hF (wn_none rfl) rfl rfl (yl_assign hF rfl rfl) ?_
                    clear hF; intro a hF
                    refine wpList_nil ?_
                    refine then_n ?_
                    refine wp_ret ?_
                    refine inb_r ?_
                    refine then_r ?_
                    refine then_r ?_
                    refine inb_r ?_
                    refine then_r ?_
                    refine ret_t hF rfl rfl ?_
                    exact ⟨_, rfl, congrArg Value.bool (chk_no hx24 (by first | omega | (simp only [decide_eq_false_iff_not] at *; omega))), (hS.sub [] (by decide) (by first | rfl | simp) (by simp))⟩
                  · first | (replace hc26 := of_decide_eq_false hc26) | (replace hc26 := of_decide_eq_true (bnot_f hc26)) | (subst hc26) | (replace hc26 := bnot_f hc26; subst hc26) | (replace hc26 := bnot_f hc26) | skip
                    refine seq_yl hF (wn_t hF rfl rfl rfl rfl) rfl rfl (yl_fieldAddr hF rfl rfl (fun w => by kernel_rfl : ∀ w, (Instr.fieldAt 27 (.pointer (some ⟨g16, 0, none⟩)) 0).run Try.prog w = .ok (.pointer (some ⟨g16, 0, none⟩)) w)) ?_
                    clear hF; intro a hF
                    refine seq_yl hF (wn_t hF rfl rfl rfl rfl) rfl rfl (yl_load (fun _ h => h ▸ hS) hF rfl rfl 1 rfl ag22 rfl) ?_
                    clear hF; intro a hF
                    refine seq_yl hF (wn_t hF rfl rfl rfl rfl) rfl rfl (yl_move hF rfl rfl) ?_
                    clear hF; intro a hF
                    refine seq_yl hF (wn_t hF rfl rfl rfl rfl) rfl rfl (yl_indexAddr hF rfl rfl rfl (fun _ => run_idx' sl22 sz3 (hS.rdRo 0 rfl) hlt_hx24)) ?_
                    clear hF; intro a hF
                    refine seq_yl hF (wn_t hF rfl rfl rfl rfl) rfl rfl (yl_loadAt hF rfl rfl ag3 (fun _ h => rd_cell0 (by subst h; exact hS.rdRo 0 rfl) encI_len hx24 rfl rfl)) ?_
                    clear hF; intro a hF
                    refine seq_yl hF (wn_t hF rfl rfl rfl rfl) rfl rfl (yl_bin hF rfl rfl rfl rfl (fun _ => run_gtr)) ?_
                    clear hF; intro a hF
                    refine seq_yl hF (wn_none rfl) rfl rfl (yl_pick (u := _) (v := undef) hF rfl rfl (fun h => by cases h) (fun _ => rfl)) ?_
                    clear hF; intro a hF
                    refine wpList_nil ?_
                    refine then_n ?_
                    refine c_cond hF rfl (fun hc27 => ?_) (fun hc27 => ?_)
                    · first | (replace hc27 := of_decide_eq_true hc27) | (replace hc27 := of_decide_eq_false (bnot_t hc27)) | (subst hc27) | (replace hc27 := bnot_t hc27; subst hc27) | (replace hc27 := bnot_t hc27) | skip
                      refine c_seq ?_
                      refine c_region ?_
                      refine seq_yl hF (wn_none rfl) rfl rfl (yl_assign hF rfl rfl) ?_
                      clear hF; intro a hF
                      refine wpList_nil ?_
                      refine then_n ?_
                      refine wp_ret ?_
                      refine inb_r ?_
                      refine then_r ?_
                      refine then_r ?_
                      refine inb_r ?_
                      refine then_r ?_
                      refine ret_t hF rfl rfl ?_
                      exact ⟨_, rfl, congrArg Value.bool (chk_no hx24 (by first | omega | (simp only [decide_eq_false_iff_not] at *; omega))), (hS.sub [] (by decide) (by first | rfl | simp) (by simp))⟩
                    · first | (replace hc27 := of_decide_eq_false hc27) | (replace hc27 := of_decide_eq_true (bnot_f hc27)) | (subst hc27) | (replace hc27 := bnot_f hc27; subst hc27) | (replace hc27 := bnot_f hc27) | skip
                      refine wp_skip ?_
                      refine inb_n ?_
                      refine then_n ?_
                      refine c_region ?_
                      refine seq_yl hF (wn_none rfl) rfl rfl (yl_move hF rfl rfl) ?_
                      clear hF; intro a hF
                      refine seq_yl hF (wn_none rfl) rfl rfl (yl_bin hF rfl rfl rfl rfl (fun _ => run_inc (by omega))) ?_
                      clear hF; intro a hF
                      refine seq_yl hF (wn_none rfl) rfl rfl (yl_assign hF rfl rfl) ?_
                      clear hF; intro a hF
                      refine wpList_nil ?_
                      refine then_n ?_
                      exact ⟨_, (by omega), k + 1, rfl, ⟨by omega, all_step hinv.2 hx24 (by first | omega | (simp only [decide_eq_true_eq] at *; omega))⟩, hF.to [1, 3] rfl, (hS.sub [0, 1] (by decide) (by first | rfl | simp) (by simp))⟩
                · first | (replace hc23 := of_decide_eq_false hc23) | (replace hc23 := of_decide_eq_true (bnot_f hc23)) | (subst hc23) | (replace hc23 := bnot_f hc23; subst hc23) | (replace hc23 := bnot_f hc23) | skip
                  refine wp_exit ?_
                  refine then_x ?_
                  refine then_x ?_
                  refine inb_x ?_
                  refine then_n ?_
                  refine c_seq ?_
                  refine c_region ?_
                  refine seq_yl hF (wn_none rfl) rfl rfl (yl_assign hF rfl rfl) ?_
                  clear hF; intro a hF
                  refine wpList_nil ?_
                  refine then_n ?_
                  refine wp_ret ?_
                  refine ret_t hF rfl rfl ?_
                  exact ⟨_, rfl, congrArg Value.bool (by first | exact chk_all (by have h9 := hinv.2; rwa [List.take_of_length_le (by omega)] at h9) (by simp only [decide_eq_true_eq, decide_eq_false_iff_not, Bool.false_eq, Bool.true_eq, decide_eq_decide, true_iff, false_iff] ; omega) | exact chk_few (by omega)), (hS.sub [] (by decide) (by first | rfl | simp) (by simp))⟩

end Go.Proofs.Ytllcklmbbkafgaa

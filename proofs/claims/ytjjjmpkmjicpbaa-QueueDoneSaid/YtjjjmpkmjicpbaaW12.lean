/- walks, printed by wip/gen -/
import Derived.Test.YtjjjmpkmjicpbaaW8
import Derived.Test.YtjjjmpkmjicpbaaW9
import Derived.Test.YtjjjmpkmjicpbaaW5
import Derived.Test.YtjjjmpkmjicpbaaW7
namespace Go.Proofs.Ytjjjmpkmjicpbaa
open Go.RowKit
set_option linter.unusedVariables false
set_option linter.unusedSimpArgs false

set_option maxHeartbeats 4000000 in
theorem doneL_any (v : Value) (L : List Int) (n : Int) (w0 : World) (hv : Rd w0 1 v (L).length (cells encI (L))) (hL : L.length ≤ 9223372036854775807) :
    Fn Try.prog 6 #[v, .int .i64 n] w0 (fun v w' => v = .bool true ∧ Sat w0 w' []) := by
  obtain ⟨Av, cv, rfl⟩ := Rd.form hv
  refine c_enter (N := 111) (l := [_, _]) Try.func6 rfl rfl (fun a w hF hS => ?_)
  replace hS := hS.addRo hv
  refine c_seq ?_
  refine c_region ?_
  refine seq_yl hF (wn_none rfl) rfl rfl (yl_assign hF rfl rfl) ?_
  clear hF; intro a hF
  refine wpList_nil ?_
  refine then_n ?_
  refine c_seq ?_
  refine c_region ?_
  refine seq_yl hF (wn_none rfl) rfl rfl (yl_move hF rfl rfl) ?_
  clear hF; intro a hF
  refine seq_yl hF (wn_none rfl) rfl rfl (yl_move hF rfl rfl) ?_
  clear hF; intro a hF
  refine seq_wp (wn_none rfl) (wp_call (vs := [_, _]) hF rfl rfl rfl rfl cf10 (pushed_any _ L (n) _ (hS.rdRo 0 rfl) (by first | omega | (simp; done) | (simp; omega))) ?_)
  clear hF; rintro _ w ⟨q655, b656, e657, m658, now659, v660, rfl, hq661, hb662, he663, hm664, hn665, hS1⟩ a hF
  replace hS := hS.callB hS1 rfl; clear hS1
  obtain ⟨Av660, cv660, rfl⟩ := hS.form 0 rfl
  have hdq655 := hq661.d; have hhq655 := hq661.h; have hfq655 := hq661.f; have hlq655 := hq661.len
  refine seq_yl hF (wn_none rfl) rfl rfl (yl_move hF rfl rfl) ?_
  clear hF; intro a hF
  refine seq_yl hF (wn_none rfl) rfl rfl (yl_extract hF rfl rfl rfl) ?_
  clear hF; intro a hF
  refine seq_yl hF (wn_none rfl) rfl rfl (yl_extract hF rfl rfl rfl) ?_
  clear hF; intro a hF
  refine seq_yl hF (wn_none rfl) rfl rfl (yl_extract hF rfl rfl rfl) ?_
  clear hF; intro a hF
  refine seq_wp (wn_none rfl) (wp_alloc (cs := #[_, _, _, _]) hF hS rfl rfl rfl zr25 rfl ?_)
  clear hF hS; intro a w g666 hF hS
  refine seq_wp (wn_none rfl) (wp_alloc (cs := #[_, _, _]) hF hS rfl rfl rfl zr27 rfl ?_)
  clear hF hS; intro a w g667 hF hS
  refine seq_wp (wn_none rfl) (wp_store (cs' := #[_, _, _, _]) hF hS rfl rfl rfl rfl 1 rfl sz25 (by simp [Value.cells, Value.oneCell']) (by simp [Value.cells]) rfl ?_)
  clear hF hS; intro a w hF hS
  refine seq_wp (wn_none rfl) (wp_store (cs' := #[_, _, _]) hF hS rfl rfl rfl rfl 0 rfl sz27 (by simp [Value.cells, Value.oneCell']) (by simp [Value.cells]) rfl ?_)
  clear hF hS; intro a w hF hS
  refine seq_yl hF (wn_none rfl) rfl rfl (yl_assign hF rfl rfl) ?_
  clear hF; intro a hF
  refine wpList_nil ?_
  refine then_n ?_
  refine c_seq ?_
  refine c_region ?_
  refine seq_yl hF (wn_none rfl) rfl rfl (yl_assign hF rfl rfl) ?_
  clear hF; intro a hF
  refine seq_yl hF (wn_none rfl) rfl rfl (yl_assign hF rfl rfl) ?_
  clear hF; intro a hF
  refine wpList_nil ?_
  refine then_n ?_
  refine c_seq ?_
  refine c_seq ?_
  refine c_region ?_
  refine seq_yl hF (wn_none rfl) rfl rfl (yl_assign hF rfl rfl) ?_
  clear hF; intro a hF
  refine wpList_nil ?_
  refine then_n ?_
  refine wp_block ?_
  refine c_loop (fun m a w => ∃ (k e0 : Nat), m = q655.L.length - k ∧ (k ≤ q655.L.length ∧ e0 = cntE (q655.L.take k) ∧ e0 ≤ k) ∧ Fr 111 a [(5, .pointer (some ⟨g666, 0, none⟩)), (8, .int .i64 (0 : Int)), (9, .int .i64 ((e0 : Nat) : Int)), (10, .int .i64 ((k : Nat) : Int))] ∧ Sat w0 w (.box g666 25 #[.int .i64 (q655.d), .int .i64 (q655.h), .int .i64 (q655.f), .slice Av660 (q655.L).length cv660] :: .row 39 12 (.slice Av660 (q655.L).length cv660) (q655.L).length (cells enc39 (q655.L)) :: [])) (q655.L.length - 0) ?_ ?_
  · exact ⟨0, 0, rfl, ⟨Nat.zero_le _, rfl, Nat.le_refl _⟩, hF.to [5, 8, 9, 10] rfl, (hS.sub [1, 2] (by decide) (by first | rfl | simp) (by simp))⟩
  · clear hF hS; try clear hSS
    clear a w; rintro m a w ⟨k, e0, rfl, hinv, hF, hS⟩
    obtain ⟨hk, he0, hek⟩ := hinv
    refine c_seq ?_
    refine c_seq ?_
    refine c_region ?_
    refine seq_yl hF (wn_none rfl) rfl rfl (yl_move hF rfl rfl) ?_
    clear hF; intro a hF
    refine seq_yl hF (wn_none rfl) rfl rfl (yl_fieldAddr hF rfl rfl (fun w => by kernel_rfl : ∀ w, (Instr.fieldAt 25 (.pointer (some ⟨g666, 0, none⟩)) 3).run Try.prog w = .ok (.pointer (some ⟨g666, 3, none⟩)) w)) ?_
    clear hF; intro a hF
    refine seq_yl hF (wn_none rfl) rfl rfl (yl_load (fun _ h => h ▸ hS) hF rfl rfl 0 rfl ag23 rfl) ?_
    clear hF; intro a hF
    refine seq_yl hF (wn_none rfl) rfl rfl (yl_len hF rfl rfl (fun _ => run_lenRd sl23 (hS.rdRow 1 rfl))) ?_
    clear hF; intro a hF
    refine seq_yl hF (wn_none rfl) rfl rfl (yl_bin hF rfl rfl rfl rfl (fun _ => run_lss)) ?_
    clear hF; intro a hF
    refine wpList_nil ?_
    refine then_n ?_
    refine c_cond hF rfl (fun hc668 => ?_) (fun hc668 => ?_)
    · first | (replace hc668 := of_decide_eq_true hc668) | (replace hc668 := of_decide_eq_false (bnot_t hc668)) | (subst hc668) | (replace hc668 := bnot_t hc668; subst hc668) | (replace hc668 := bnot_t hc668) | skip
      refine wp_skip ?_
      refine then_n ?_
      refine c_seq ?_
      refine wp_block ?_
      refine c_seq ?_
      refine c_region ?_
      refine seq_yl hF (wn_none rfl) rfl rfl (yl_fieldAddr hF rfl rfl (fun w => by kernel_rfl : ∀ w, (Instr.fieldAt 25 (.pointer (some ⟨g666, 0, none⟩)) 3).run Try.prog w = .ok (.pointer (some ⟨g666, 3, none⟩)) w)) ?_
      clear hF; intro a hF
      refine seq_yl hF (wn_none rfl) rfl rfl (yl_load (fun _ h => h ▸ hS) hF rfl rfl 0 rfl ag23 rfl) ?_
      clear hF; intro a hF
      refine seq_yl hF (wn_none rfl) rfl rfl (yl_move hF rfl rfl) ?_
      clear hF; intro a hF
      have hlt_hx669 : k < (q655.L).length := by first | omega | (simp; done) | (simp; omega)
      obtain ⟨ad670, rfl⟩ := rd_some (hS.rdRow 1 rfl) hlt_hx669
      obtain ⟨x669, hx669⟩ := get_some hlt_hx669
      refine seq_yl hF (wn_none rfl) rfl rfl (yl_indexAddr hF rfl rfl rfl (fun _ => run_idx' sl23 sz39 (hS.rdRow 1 rfl) hlt_hx669)) ?_
      clear hF; intro a hF
      refine seq_yl hF (wn_none rfl) rfl rfl (yl_fieldAddr hF rfl rfl (fun w => run_fa fo39_7)) ?_
      clear hF; intro a hF
      refine seq_yl hF (wn_none rfl) rfl rfl (yl_loadAt hF rfl rfl ag3 (fun _ h => rd_cell (j := 7) (enc := enc39) (by subst h; exact hS.rdRow 1 rfl) enc39_len hx669 rfl rfl)) ?_
      clear hF; intro a hF
      refine seq_yl hF (wn_none rfl) rfl rfl (yl_bin hF rfl rfl rfl rfl (fun _ => run_geq)) ?_
      clear hF; intro a hF
      refine wpList_nil ?_
      refine then_n ?_
      refine c_cond hF rfl (fun hc671 => ?_) (fun hc671 => ?_)
      · first | (replace hc671 := of_decide_eq_true hc671) | (replace hc671 := of_decide_eq_false (bnot_t hc671)) | (subst hc671) | (replace hc671 := bnot_t hc671; subst hc671) | (replace hc671 := bnot_t hc671) | skip
        refine c_region ?_
        refine seq_yl hF (wn_none rfl) rfl rfl (yl_move hF rfl rfl) ?_
        clear hF; intro a hF
        refine seq_yl hF (wn_none rfl) rfl rfl (yl_bin hF rfl rfl rfl rfl (fun _ => run_inc (by omega))) ?_
        clear hF; intro a hF
        refine seq_yl hF (wn_none rfl) rfl rfl (yl_assign hF rfl rfl) ?_
        clear hF; intro a hF
        refine wpList_nil ?_
        refine inb_n ?_
        refine then_n ?_
        refine c_region ?_
        refine seq_yl hF (wn_none rfl) rfl rfl (yl_move hF rfl rfl) ?_
        clear hF; intro a hF
        refine seq_yl hF (wn_none rfl) rfl rfl (yl_bin hF rfl rfl rfl rfl (fun _ => run_inc (by omega))) ?_
        clear hF; intro a hF
        refine seq_yl hF (wn_none rfl) rfl rfl (yl_assign hF rfl rfl) ?_
        clear hF; intro a hF
        refine wpList_nil ?_
        refine then_n ?_
        exact ⟨_, (by omega), k + 1, (e0 + 1), rfl, ⟨by omega, by rw [cnt_yes hx669 (by omega), he0], by omega⟩, hF.to [5, 8, 9, 10] rfl, (hS.sub [0, 1] (by decide) (by first | rfl | simp) (by simp))⟩
      · first | (replace hc671 := of_decide_eq_false hc671) | (replace hc671 := of_decide_eq_true (bnot_f hc671)) | (subst hc671) | (replace hc671 := bnot_f hc671; subst hc671) | (replace hc671 := bnot_f hc671) | skip
        refine wp_skip ?_
        refine inb_n ?_
        refine then_n ?_
        refine c_region ?_
        refine seq_yl hF (wn_none rfl) rfl rfl (yl_move hF rfl rfl) ?_
        clear hF; intro a hF
        refine seq_yl hF (wn_none rfl) rfl rfl (yl_bin hF rfl rfl rfl rfl (fun _ => run_inc (by omega))) ?_
        clear hF; intro a hF
        refine seq_yl hF (wn_none rfl) rfl rfl (yl_assign hF rfl rfl) ?_
        clear hF; intro a hF
        refine wpList_nil ?_
        refine then_n ?_
        exact ⟨_, (by omega), k + 1, e0, rfl, ⟨by omega, by rw [cnt_no hx669 (by omega), he0], by omega⟩, hF.to [5, 8, 9, 10] rfl, (hS.sub [0, 1] (by decide) (by first | rfl | simp) (by simp))⟩
    · first | (replace hc668 := of_decide_eq_false hc668) | (replace hc668 := of_decide_eq_true (bnot_f hc668)) | (subst hc668) | (replace hc668 := bnot_f hc668; subst hc668) | (replace hc668 := bnot_f hc668) | skip
      refine wp_exit ?_
      refine then_x ?_
      refine then_x ?_
      refine inb_x ?_
      refine then_n ?_
      refine c_seq ?_
      refine c_region ?_
      refine seq_yl hF (wn_none rfl) rfl rfl (yl_fieldAddr hF rfl rfl (fun w => by kernel_rfl : ∀ w, (Instr.fieldAt 25 (.pointer (some ⟨g666, 0, none⟩)) 3).run Try.prog w = .ok (.pointer (some ⟨g666, 3, none⟩)) w)) ?_
      clear hF; intro a hF
      refine seq_yl hF (wn_none rfl) rfl rfl (yl_load (fun _ h => h ▸ hS) hF rfl rfl 0 rfl ag23 rfl) ?_
      clear hF; intro a hF
      refine seq_yl hF (wn_none rfl) rfl rfl (yl_len hF rfl rfl (fun _ => run_lenRd sl23 (hS.rdRow 1 rfl))) ?_
      clear hF; intro a hF
      refine seq_yl hF (wn_none rfl) rfl rfl (yl_assign hF rfl rfl) ?_
      clear hF; intro a hF
      refine wpList_nil ?_
      refine then_n ?_
      refine c_seq ?_
      refine c_seq ?_
      refine c_region ?_
      refine seq_yl hF (wn_none rfl) rfl rfl (yl_assign hF rfl rfl) ?_
      clear hF; intro a hF
      refine wpList_nil ?_
      refine then_n ?_
      refine wp_block ?_
      have hgd0 := pq_gd hq661 (by omega); rw [List.take_of_length_le (by omega)] at he0; have hce := cnt_le q655.L
      refine c_loop (fun m a w => ∃ (k : Nat) (Q : Qu) (AvQ : Option Addr) (cvQ : Nat), m = 12 - k ∧ (k ≤ 12 ∧ Gd Q.L ∧ cntE Q.L + k = e0 ∧ Q.L.length + k = q655.L.length) ∧ Fr 111 a [(5, .pointer (some ⟨g666, 0, none⟩)), (8, .int .i64 ((k : Nat) : Int)), (9, .int .i64 ((e0 : Nat) : Int)), (11, .int .i64 (((q655.L).length : Nat) : Int)), (12, .int .i64 ((k : Nat) : Int))] ∧ Sat w0 w (.box g666 25 #[.int .i64 (Q.d), .int .i64 (Q.h), .int .i64 (Q.f), .slice AvQ (Q.L).length cvQ] :: .row 39 12 (.slice AvQ (Q.L).length cvQ) (Q.L).length (cells enc39 (Q.L)) :: [])) (12 - 0) ?_ ?_
      · exact ⟨0, q655, Av660, cv660, rfl, ⟨by omega, hgd0, by omega, by omega⟩, hF.to [5, 8, 9, 11, 12] rfl, (hS.sub [0, 1] (by decide) (by first | rfl | simp) (by simp))⟩
      · clear hF hS; try clear hSS
        clear a w; rintro m a w ⟨k, Q, AvQ, cvQ, rfl, hinv, hF, hS⟩
        obtain ⟨hk12, hgd, hcnt, hlen⟩ := hinv
        refine c_seq ?_
        refine c_seq ?_
        refine c_region ?_
        refine seq_yl hF (wn_none rfl) rfl rfl (yl_move hF rfl rfl) ?_
        clear hF; intro a hF
        refine seq_yl hF (wn_none rfl) rfl rfl (yl_bin hF rfl rfl rfl rfl (fun _ => run_lss)) ?_
        clear hF; intro a hF
        refine wpList_nil ?_
        refine then_n ?_
        refine c_cond hF rfl (fun hc672 => ?_) (fun hc672 => ?_)
        · first | (replace hc672 := of_decide_eq_true hc672) | (replace hc672 := of_decide_eq_false (bnot_t hc672)) | (subst hc672) | (replace hc672 := bnot_t hc672; subst hc672) | (replace hc672 := bnot_t hc672) | skip
          refine wp_skip ?_
          refine then_n ?_
          refine c_seq ?_
          refine wp_block ?_
          refine c_seq ?_
          refine c_region ?_
          refine seq_yl hF (wn_none rfl) rfl rfl (yl_loadK (rs := [_, _, _, _]) (fun _ h => h ▸ hS) hF rfl rfl 0 rfl ag25 sz25 rfl rfl) ?_
          clear hF; intro a hF
          refine seq_wp (wn_none rfl) (wp_call (vs := [_]) hF rfl rfl rfl rfl cf17 (next_any (Q.d) (Q.h) (Q.f) Q.L _ _ (hS.rdRow 1 rfl) (by first | omega | (simp; done) | (simp; omega))) ?_)
          clear hF; rintro _ w ⟨l673, fd674, rfl, hnx675, hS1⟩ a hF
          replace hS := hS.callB hS1 rfl; clear hS1
          refine seq_yl hF (wn_none rfl) rfl rfl (yl_move hF rfl rfl) ?_
          clear hF; intro a hF
          refine seq_yl hF (wn_none rfl) rfl rfl (yl_extract hF rfl rfl rfl) ?_
          clear hF; intro a hF
          refine seq_yl hF (wn_none rfl) rfl rfl (yl_extract hF rfl rfl rfl) ?_
          clear hF; intro a hF
          rcases next_spec hgd hnx675 with ⟨hfd, hz⟩ | ⟨hfd, hl1, hd0, hr0, hdl, ⟨xx, hd1, hx7⟩, hcn, hln⟩
          · skip
            replace hF := fr_set (b' := false) hF (by assumption)
            refine seq_yl hF (wn_none rfl) rfl rfl (yl_assign hF rfl rfl) ?_
            clear hF; intro a hF
            refine seq_yl hF (wn_none rfl) rfl rfl (yl_assign hF rfl rfl) ?_
            clear hF; intro a hF
            refine wpList_nil ?_
            refine then_n ?_
            refine c_seq ?_
            refine c_seq ?_
            refine c_region ?_
            refine seq_yl hF (wn_none rfl) rfl rfl (yl_move hF rfl rfl) ?_
            clear hF; intro a hF
            refine seq_yl hF (wn_none rfl) rfl rfl (yl_un hF rfl rfl (fun _ => run_not)) ?_
            clear hF; intro a hF
            refine wpList_nil ?_
            refine then_n ?_
            refine c_cond_t hF rfl ?_
            refine wp_exit ?_
            refine then_x ?_
            refine inb_o (by decide) ?_
            refine then_x ?_
            refine then_x ?_
            refine inb_x ?_
            refine then_n ?_
            refine c_seq ?_
            refine c_region ?_
            refine seq_yl hF (wn_none rfl) rfl rfl (yl_move hF rfl rfl) ?_
            clear hF; intro a hF
            refine seq_yl hF (wn_none rfl) rfl rfl (yl_move hF rfl rfl) ?_
            clear hF; intro a hF
            refine seq_yl hF (wn_none rfl) rfl rfl (yl_bin hF rfl rfl rfl rfl (fun _ => run_eql)) ?_
            clear hF; intro a hF
            replace hF := fr_set (b' := true) hF (by rw [decide_eq_true_eq]; omega)
            refine seq_yl hF (wn_none rfl) rfl rfl (yl_move hF rfl rfl) ?_
            clear hF; intro a hF
            refine seq_yl hF (wn_t hF rfl rfl rfl rfl) rfl rfl (yl_fieldAddr hF rfl rfl (fun w => by kernel_rfl : ∀ w, (Instr.fieldAt 25 (.pointer (some ⟨g666, 0, none⟩)) 3).run Try.prog w = .ok (.pointer (some ⟨g666, 3, none⟩)) w)) ?_
            clear hF; intro a hF
            refine seq_yl hF (wn_t hF rfl rfl rfl rfl) rfl rfl (yl_load (fun _ h => h ▸ hS) hF rfl rfl 0 rfl ag23 rfl) ?_
            clear hF; intro a hF
            refine seq_yl hF (wn_t hF rfl rfl rfl rfl) rfl rfl (yl_len hF rfl rfl (fun _ => run_lenRd sl23 (hS.rdRow 1 rfl))) ?_
            clear hF; intro a hF
            refine seq_yl hF (wn_t hF rfl rfl rfl rfl) rfl rfl (yl_move hF rfl rfl) ?_
            clear hF; intro a hF
            refine seq_yl hF (wn_t hF rfl rfl rfl rfl) rfl rfl (yl_move hF rfl rfl) ?_
            clear hF; intro a hF
            refine seq_yl hF (wn_t hF rfl rfl rfl rfl) rfl rfl (yl_bin hF rfl rfl rfl rfl (fun _ => run_sub (by refine ⟨?_, ?_⟩ <;> omega))) ?_
            clear hF; intro a hF
            refine seq_yl hF (wn_t hF rfl rfl rfl rfl) rfl rfl (yl_bin hF rfl rfl rfl rfl (fun _ => run_eql)) ?_
            clear hF; intro a hF
            replace hF := fr_set (b' := true) hF (by rw [decide_eq_true_eq]; omega)
            refine seq_yl hF (wn_none rfl) rfl rfl (yl_pick (u := _) (v := undef) hF rfl rfl (fun _ => rfl) (fun h => by cases h)) ?_
            clear hF; intro a hF
            refine seq_yl hF (wn_none rfl) rfl rfl (yl_move hF rfl rfl) ?_
            clear hF; intro a hF
            refine seq_wp (wn_t hF rfl rfl rfl rfl) (wp_call (vs := []) hF rfl rfl rfl rfl cf14 (awake_any _) ?_)
            clear hF; rintro _ w ⟨rfl, hS1⟩ a hF
            replace hS := hS.callB hS1 rfl; clear hS1
            refine seq_yl hF (wn_none rfl) rfl rfl (yl_pick (u := _) (v := undef) hF rfl rfl (fun _ => rfl) (fun h => by cases h)) ?_
            clear hF; intro a hF
            refine seq_yl hF (wn_none rfl) rfl rfl (yl_assign hF rfl rfl) ?_
            clear hF; intro a hF
            refine wpList_nil ?_
            refine then_n ?_
            refine wp_ret ?_
            refine ret_t hF rfl rfl ?_
            exact ⟨_, rfl, rfl, (hS.sub [] (by decide) (by first | rfl | simp) (by simp))⟩
          · skip
            replace hF := fr_set (b' := true) hF (by assumption)
            refine seq_yl hF (wn_none rfl) rfl rfl (yl_assign hF rfl rfl) ?_
            clear hF; intro a hF
            refine seq_yl hF (wn_none rfl) rfl rfl (yl_assign hF rfl rfl) ?_
            clear hF; intro a hF
            refine wpList_nil ?_
            refine then_n ?_
            refine c_seq ?_
            refine c_seq ?_
            refine c_region ?_
            refine seq_yl hF (wn_none rfl) rfl rfl (yl_move hF rfl rfl) ?_
            clear hF; intro a hF
            refine seq_yl hF (wn_none rfl) rfl rfl (yl_un hF rfl rfl (fun _ => run_not)) ?_
            clear hF; intro a hF
            refine wpList_nil ?_
            refine then_n ?_
            refine c_cond_f hF rfl ?_
            refine wp_skip ?_
            refine then_n ?_
            refine c_seq ?_
            refine c_region ?_
            refine seq_yl hF (wn_none rfl) rfl rfl (yl_loadK (rs := [_, _, _, _]) (fun _ h => h ▸ hS) hF rfl rfl 0 rfl ag25 sz25 rfl rfl) ?_
            clear hF; intro a hF
            refine seq_yl hF (wn_none rfl) rfl rfl (yl_move hF rfl rfl) ?_
            clear hF; intro a hF
            refine seq_yl hF (wn_none rfl) rfl rfl (yl_bin hF rfl rfl rfl rfl (fun _ => run_sub (by refine ⟨?_, ?_⟩ <;> omega))) ?_
            clear hF; intro a hF
            have hl678 := done_len Q.L (((l673) - (1 : Int)))
            refine seq_wp (wn_none rfl) (wp_call (vs := [_, _]) hF rfl rfl rfl rfl cf16 (done_any (Q.d) (Q.h) (Q.f) Q.L (((l673) - (1 : Int))) _ _ (hS.rdRow 1 rfl) (by first | omega | (simp; done) | (simp; omega))) ?_)
            clear hF; rintro _ w ⟨v676, v677, rfl, hS1⟩ a hF
            replace hS := hS.callB hS1 rfl; clear hS1
            obtain ⟨Av676, cv676, rfl⟩ := hS.form 0 rfl
            obtain ⟨Av677, cv677, rfl⟩ := hS.form 1 rfl
            refine seq_yl hF (wn_none rfl) rfl rfl (yl_move hF rfl rfl) ?_
            clear hF; intro a hF
            refine seq_yl hF (wn_none rfl) rfl rfl (yl_extract hF rfl rfl rfl) ?_
            clear hF; intro a hF
            refine seq_yl hF (wn_none rfl) rfl rfl (yl_extract hF rfl rfl rfl) ?_
            clear hF; intro a hF
            refine seq_wp (wn_none rfl) (wp_alloc (cs := #[_, _, _, _]) hF hS rfl rfl rfl zr25 rfl ?_)
            clear hF hS; intro a w g679 hF hS
            refine seq_wp (wn_none rfl) (wp_store (cs' := #[_, _, _, _]) hF hS rfl rfl rfl rfl 0 rfl sz25 (by simp [Value.cells, Value.oneCell']) (by simp [Value.cells]) rfl ?_)
            clear hF hS; intro a w hF hS
            refine seq_yl hF (wn_none rfl) rfl rfl (yl_assign hF rfl rfl) ?_
            clear hF; intro a hF
            refine wpList_nil ?_
            refine then_n ?_
            refine c_seq ?_
            refine c_region ?_
            refine seq_yl hF (wn_none rfl) rfl rfl (yl_loadK (rs := [_, _, _, _]) (fun _ h => h ▸ hS) hF rfl rfl 3 rfl ag25 sz25 rfl rfl) ?_
            clear hF; intro a hF
            refine seq_yl hF (wn_none rfl) rfl rfl (yl_move hF rfl rfl) ?_
            clear hF; intro a hF
            have hl682 := done_len Q.L (l673)
            refine seq_wp (wn_none rfl) (wp_call (vs := [_, _]) hF rfl rfl rfl rfl cf16 (done_any (Q.d) (Q.h) (Q.f) Q.L (l673) _ _ (hS.rdRow 4 rfl) (by first | omega | (simp; done) | (simp; omega))) ?_)
            clear hF; rintro _ w ⟨v680, v681, rfl, hS1⟩ a hF
            replace hS := hS.callB hS1 rfl; clear hS1
            obtain ⟨Av680, cv680, rfl⟩ := hS.form 0 rfl
            obtain ⟨Av681, cv681, rfl⟩ := hS.form 1 rfl
            refine seq_yl hF (wn_none rfl) rfl rfl (yl_move hF rfl rfl) ?_
            clear hF; intro a hF
            refine seq_yl hF (wn_none rfl) rfl rfl (yl_extract hF rfl rfl rfl) ?_
            clear hF; intro a hF
            refine seq_yl hF (wn_none rfl) rfl rfl (yl_extract hF rfl rfl rfl) ?_
            clear hF; intro a hF
            refine seq_wp (wn_none rfl) (wp_alloc (cs := #[_, _, _, _]) hF hS rfl rfl rfl zr25 rfl ?_)
            clear hF hS; intro a w g683 hF hS
            refine seq_wp (wn_none rfl) (wp_store (cs' := #[_, _, _, _]) hF hS rfl rfl rfl rfl 0 rfl sz25 (by simp [Value.cells, Value.oneCell']) (by simp [Value.cells]) rfl ?_)
            clear hF hS; intro a w hF hS
            refine seq_yl hF (wn_none rfl) rfl rfl (yl_assign hF rfl rfl) ?_
            clear hF; intro a hF
            refine wpList_nil ?_
            refine then_n ?_
            refine c_seq ?_
            refine c_seq ?_
            refine c_region ?_
            refine seq_yl hF (wn_none rfl) rfl rfl (yl_move hF rfl rfl) ?_
            clear hF; intro a hF
            refine seq_yl hF (wn_none rfl) rfl rfl (yl_len hF rfl rfl (fun _ => run_lenRd sl23 (hS.rdRow 5 rfl))) ?_
            clear hF; intro a hF
            refine seq_yl hF (wn_none rfl) rfl rfl (yl_bin hF rfl rfl rfl rfl (fun _ => run_neq)) ?_
            clear hF; intro a hF
            replace hF := fr_set (b' := false) hF (by rw [decide_eq_false_iff_not, hd0]; simp)
            refine seq_yl hF (wn_none rfl) rfl rfl (yl_move hF rfl rfl) ?_
            clear hF; intro a hF
            refine seq_yl hF (wn_t hF rfl rfl rfl rfl) rfl rfl (yl_loadK (rs := [_, _, _, _]) (fun _ h => h ▸ hS) hF rfl rfl 3 rfl ag25 sz25 rfl rfl) ?_
            clear hF; intro a hF
            refine seq_yl hF (wn_t hF rfl rfl rfl rfl) rfl rfl (yl_loadK (rs := [_, _, _, _]) (fun _ h => h ▸ hS) hF rfl rfl 6 rfl ag25 sz25 rfl rfl) ?_
            clear hF; intro a hF
            refine seq_wp (wn_t hF rfl rfl rfl rfl) (wp_call (vs := [_, _]) hF rfl rfl rfl rfl cf18 (sameQ_any (Qu.mk ((Q.d)) ((Q.h)) ((Q.f)) (restF Q.L (((l673) - (1 : Int))))) (Qu.mk (Q.d) (Q.h) (Q.f) Q.L) _ _ _ (hS.rdRow 4 rfl) (hS.rdRow 7 rfl) (by first | omega | (simp; done) | (simp; omega))) ?_)
            clear hF; rintro _ w ⟨rfl, hS1⟩ a hF
            replace hS := hS.callB hS1 rfl; clear hS1
            replace hF := fr_set (b' := true) hF (by rw [hr0]; simp)
            refine seq_yl hF (wn_t hF rfl rfl rfl rfl) rfl rfl (yl_un hF rfl rfl (fun _ => run_not)) ?_
            clear hF; intro a hF
            refine seq_yl hF (wn_none rfl) rfl rfl (yl_pick (u := _) (v := undef) hF rfl rfl (fun h => by cases h) (fun _ => rfl)) ?_
            clear hF; intro a hF
            refine seq_yl hF (wn_none rfl) rfl rfl (yl_move hF rfl rfl) ?_
            clear hF; intro a hF
            refine seq_yl hF (wn_t hF rfl rfl rfl rfl) rfl rfl (yl_move hF rfl rfl) ?_
            clear hF; intro a hF
            refine seq_yl hF (wn_t hF rfl rfl rfl rfl) rfl rfl (yl_len hF rfl rfl (fun _ => run_lenRd sl23 (hS.rdRow 2 rfl))) ?_
            clear hF; intro a hF
            refine seq_yl hF (wn_t hF rfl rfl rfl rfl) rfl rfl (yl_bin hF rfl rfl rfl rfl (fun _ => run_neq)) ?_
            clear hF; intro a hF
            replace hF := fr_set (b' := false) hF (by rw [decide_eq_false_iff_not]; omega)
            refine seq_yl hF (wn_none rfl) rfl rfl (yl_pick (u := _) (v := undef) hF rfl rfl (fun h => by cases h) (fun _ => rfl)) ?_
            clear hF; intro a hF
            refine seq_yl hF (wn_none rfl) rfl rfl (yl_move hF rfl rfl) ?_
            clear hF; intro a hF
            refine seq_yl hF (wn_t hF rfl rfl rfl rfl) rfl rfl (yl_move hF rfl rfl) ?_
            clear hF; intro a hF
            have hlt_hx684 : 0 < ((doneF Q.L (l673))).length := by first | omega | (simp; done) | (simp; omega)
            obtain ⟨ad685, rfl⟩ := rd_some (hS.rdRow 2 rfl) hlt_hx684
            obtain ⟨x684, hx684⟩ := get_some hlt_hx684
            refine seq_yl hF (wn_t hF rfl rfl rfl rfl) rfl rfl (yl_indexAddr hF rfl rfl rfl (fun _ => run_idx' (k := 0) sl23 sz39 (hS.rdRow 2 rfl) hlt_hx684)) ?_
            clear hF; intro a hF
            refine seq_yl hF (wn_t hF rfl rfl rfl rfl) rfl rfl (yl_fieldAddr hF rfl rfl (fun w => run_fa fo39_7)) ?_
            clear hF; intro a hF
            refine seq_yl hF (wn_t hF rfl rfl rfl rfl) rfl rfl (yl_loadAt hF rfl rfl ag3 (fun _ h => rd_cell (j := 7) (enc := enc39) (by subst h; exact hS.rdRow 2 rfl) enc39_len hx684 rfl rfl)) ?_
            clear hF; intro a hF
            refine seq_yl hF (wn_t hF rfl rfl rfl rfl) rfl rfl (yl_move hF rfl rfl) ?_
            clear hF; intro a hF
            refine seq_yl hF (wn_t hF rfl rfl rfl rfl) rfl rfl (yl_bin hF rfl rfl rfl rfl (fun _ => run_neq)) ?_
            clear hF; intro a hF
            replace hF := fr_set (b' := false) hF (by have h9 := hx684; rw [hd1] at h9; injection h9 with h9; rw [decide_eq_false_iff_not, ← h9, hx7]; exact fun h => h rfl)
            refine seq_yl hF (wn_none rfl) rfl rfl (yl_pick (u := _) (v := undef) hF rfl rfl (fun h => by cases h) (fun _ => rfl)) ?_
            clear hF; intro a hF
            refine wpList_nil ?_
            refine then_n ?_
            refine c_cond_f hF rfl ?_
            refine wp_skip ?_
            refine then_n ?_
            refine c_seq ?_
            refine c_region ?_
            refine seq_yl hF (wn_none rfl) rfl rfl (yl_move hF rfl rfl) ?_
            clear hF; intro a hF
            refine seq_yl hF (wn_none rfl) rfl rfl (yl_move hF rfl rfl) ?_
            clear hF; intro a hF
            refine seq_yl hF (wn_none rfl) rfl rfl (yl_len hF rfl rfl (fun _ => run_lenRd sl23 (hS.rdRow 2 rfl))) ?_
            clear hF; intro a hF
            refine seq_yl hF (wn_none rfl) rfl rfl (yl_bin hF rfl rfl rfl rfl (fun _ => run_add (by refine ⟨?_, ?_⟩ <;> omega))) ?_
            clear hF; intro a hF
            replace hF := fr_seti (b' := (((k + 1) : Nat) : Int)) hF (by omega)
            refine seq_yl hF (wn_none rfl) rfl rfl (yl_assign hF rfl rfl) ?_
            clear hF; intro a hF
            refine wpList_nil ?_
            refine then_n ?_
            refine c_region ?_
            refine seq_yl hF (wn_none rfl) rfl rfl (yl_loadK (rs := [_, _, _, _]) (fun _ h => h ▸ hS) hF rfl rfl 0 rfl ag25 sz25 rfl rfl) ?_
            clear hF; intro a hF
            refine seq_wp (wn_none rfl) (wp_store (cs' := #[_, _, _, _]) hF hS rfl rfl rfl rfl 6 rfl sz25 (by simp [Value.cells, Value.oneCell']) (by simp [Value.cells]) rfl ?_)
            clear hF hS; intro a w hF hS
            refine wpList_nil ?_
            refine inb_n ?_
            refine then_n ?_
            refine c_region ?_
            refine seq_yl hF (wn_none rfl) rfl rfl (yl_move hF rfl rfl) ?_
            clear hF; intro a hF
            refine seq_yl hF (wn_none rfl) rfl rfl (yl_bin hF rfl rfl rfl rfl (fun _ => run_inc (by omega))) ?_
            clear hF; intro a hF
            refine seq_yl hF (wn_none rfl) rfl rfl (yl_assign hF rfl rfl) ?_
            clear hF; intro a hF
            refine wpList_nil ?_
            refine then_n ?_
            exact ⟨_, (by omega), k + 1, (Qu.mk ((Q.d)) ((Q.h)) ((Q.f)) (restF Q.L (l673))), Av680, cv680, rfl, ⟨by omega, gd_rest hgd _, by (try dsimp only); omega, by (try dsimp only); omega⟩, hF.to [5, 8, 9, 11, 12] rfl, (hS.sub [6, 1] (by decide) (by first | rfl | simp) (by simp))⟩
        · first | (replace hc672 := of_decide_eq_false hc672) | (replace hc672 := of_decide_eq_true (bnot_f hc672)) | (subst hc672) | (replace hc672 := bnot_f hc672; subst hc672) | (replace hc672 := bnot_f hc672) | skip
          refine wp_exit ?_
          refine then_x ?_
          refine then_x ?_
          refine inb_x ?_
          refine then_n ?_
          refine c_seq ?_
          refine c_region ?_
          refine seq_yl hF (wn_none rfl) rfl rfl (yl_move hF rfl rfl) ?_
          clear hF; intro a hF
          refine seq_yl hF (wn_none rfl) rfl rfl (yl_move hF rfl rfl) ?_
          clear hF; intro a hF
          refine seq_yl hF (wn_none rfl) rfl rfl (yl_bin hF rfl rfl rfl rfl (fun _ => run_eql)) ?_
          clear hF; intro a hF
          replace hF := fr_set (b' := true) hF (by rw [decide_eq_true_eq]; omega)
          refine seq_yl hF (wn_none rfl) rfl rfl (yl_move hF rfl rfl) ?_
          clear hF; intro a hF
          refine seq_yl hF (wn_t hF rfl rfl rfl rfl) rfl rfl (yl_fieldAddr hF rfl rfl (fun w => by kernel_rfl : ∀ w, (Instr.fieldAt 25 (.pointer (some ⟨g666, 0, none⟩)) 3).run Try.prog w = .ok (.pointer (some ⟨g666, 3, none⟩)) w)) ?_
          clear hF; intro a hF
          refine seq_yl hF (wn_t hF rfl rfl rfl rfl) rfl rfl (yl_load (fun _ h => h ▸ hS) hF rfl rfl 0 rfl ag23 rfl) ?_
          clear hF; intro a hF
          refine seq_yl hF (wn_t hF rfl rfl rfl rfl) rfl rfl (yl_len hF rfl rfl (fun _ => run_lenRd sl23 (hS.rdRow 1 rfl))) ?_
          clear hF; intro a hF
          refine seq_yl hF (wn_t hF rfl rfl rfl rfl) rfl rfl (yl_move hF rfl rfl) ?_
          clear hF; intro a hF
          refine seq_yl hF (wn_t hF rfl rfl rfl rfl) rfl rfl (yl_move hF rfl rfl) ?_
          clear hF; intro a hF
          refine seq_yl hF (wn_t hF rfl rfl rfl rfl) rfl rfl (yl_bin hF rfl rfl rfl rfl (fun _ => run_sub (by refine ⟨?_, ?_⟩ <;> omega))) ?_
          clear hF; intro a hF
          refine seq_yl hF (wn_t hF rfl rfl rfl rfl) rfl rfl (yl_bin hF rfl rfl rfl rfl (fun _ => run_eql)) ?_
          clear hF; intro a hF
          replace hF := fr_set (b' := true) hF (by rw [decide_eq_true_eq]; omega)
          refine seq_yl hF (wn_none rfl) rfl rfl (yl_pick (u := _) (v := undef) hF rfl rfl (fun _ => rfl) (fun h => by cases h)) ?_
          clear hF; intro a hF
          refine seq_yl hF (wn_none rfl) rfl rfl (yl_move hF rfl rfl) ?_
          clear hF; intro a hF
          refine seq_wp (wn_t hF rfl rfl rfl rfl) (wp_call (vs := []) hF rfl rfl rfl rfl cf14 (awake_any _) ?_)
          clear hF; rintro _ w ⟨rfl, hS1⟩ a hF
          replace hS := hS.callB hS1 rfl; clear hS1
          refine seq_yl hF (wn_none rfl) rfl rfl (yl_pick (u := _) (v := undef) hF rfl rfl (fun _ => rfl) (fun h => by cases h)) ?_
          clear hF; intro a hF
          refine seq_yl hF (wn_none rfl) rfl rfl (yl_assign hF rfl rfl) ?_
          clear hF; intro a hF
          refine wpList_nil ?_
          refine then_n ?_
          refine wp_ret ?_
          refine ret_t hF rfl rfl ?_
          exact ⟨_, rfl, rfl, (hS.sub [] (by decide) (by first | rfl | simp) (by simp))⟩

end Go.Proofs.Ytjjjmpkmjicpbaa

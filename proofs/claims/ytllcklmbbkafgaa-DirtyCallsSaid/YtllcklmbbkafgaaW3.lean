/- walks, printed by wip/gen -/
import Derived.Test.YtllcklmbbkafgaaW1
namespace Go.Proofs.Ytllcklmbbkafgaa
open Go.RowKit
set_option linter.unusedVariables false
set_option linter.unusedSimpArgs false

theorem sum_any (v : Value) (L : List Int) (w0 : World) (hv : Rd w0 1 v (L).length (cells encI (L))) (hmem : ∀ e ∈ L, 0 ≤ e ∧ e ≤ 1000000) (hL : L.length ≤ 4) :
    Fn Try.prog 27 #[v] w0 (fun v w' => v = .int .i64 L.sum ∧ Sat w0 w' []) := by
  obtain ⟨Av, cv, rfl⟩ := Rd.form hv
  refine c_enter (N := 17) (l := [_]) Try.func27 rfl rfl (fun a w hF hS => ?_)
  replace hS := hS.addRo hv
  refine c_seq ?_
  refine c_region ?_
  refine seq_yl hF (wn_none rfl) rfl rfl (yl_assign hF rfl rfl) ?_
  clear hF; intro a hF
  refine wpList_nil ?_
  refine then_n ?_
  refine c_seq ?_
  refine c_region ?_
  refine seq_yl hF (wn_none rfl) rfl rfl (yl_assign hF rfl rfl) ?_
  clear hF; intro a hF
  refine wpList_nil ?_
  refine then_n ?_
  refine c_seq ?_
  refine c_seq ?_
  refine c_region ?_
  refine seq_yl hF (wn_none rfl) rfl rfl (yl_move hF rfl rfl) ?_
  clear hF; intro a hF
  refine seq_yl hF (wn_none rfl) rfl rfl (yl_len hF rfl rfl (fun _ => run_lenRd sl22 (hS.rdRo 0 rfl))) ?_
  clear hF; intro a hF
  refine seq_yl hF (wn_none rfl) rfl rfl (yl_move hF rfl rfl) ?_
  clear hF; intro a hF
  refine wpList_nil ?_
  refine then_n ?_
  refine wp_block ?_
  refine c_loop (fun m a w => ∃ (k : Nat) (t : Int), m = L.length - k ∧ (k ≤ L.length ∧ t = (L.take k).sum) ∧ Fr 17 a [(3, .int .i64 (t)), (6, .slice Av (L).length cv), (7, .int .i64 (((L).length : Nat) : Int)), (8, .int .i64 ((k : Nat) : Int))] ∧ Sat w0 w (.ro 1 (.slice Av (L).length cv) (L).length (cells encI (L)) :: [])) (L.length - 0) ?_ ?_
  · exact ⟨0, 0, rfl, ⟨Nat.zero_le _, by simp⟩, hF.to [3, 6, 7, 8] rfl, (hS.sub [0] (by decide) (by first | rfl | simp) (by simp))⟩
  · clear hF hS; try clear hSS
    clear a w; rintro m a w ⟨k, t, rfl, hinv, hF, hS⟩
    have hk := hinv.1
    have hts := hinv.2
    have hti := sum_in (L := L.take k) (fun e he => hmem e (List.mem_of_mem_take he))
    rw [← hts, List.length_take] at hti
    refine c_seq ?_
    refine c_region ?_
    refine seq_yl hF (wn_none rfl) rfl rfl (yl_bin hF rfl rfl rfl rfl (fun _ => run_lss)) ?_
    clear hF; intro a hF
    refine wpList_nil ?_
    refine then_n ?_
    refine c_seq ?_
    refine c_cond hF rfl (fun hc72 => ?_) (fun hc72 => ?_)
    · first | (replace hc72 := of_decide_eq_true hc72) | (replace hc72 := of_decide_eq_false (bnot_t hc72)) | (subst hc72) | (replace hc72 := bnot_t hc72; subst hc72) | (replace hc72 := bnot_t hc72) | skip
      refine wp_skip ?_
      refine then_n ?_
      refine c_seq ?_
      refine wp_block ?_
      refine c_seq ?_
      refine c_region ?_
      have hlt_hx73 : k < (L).length := by first | omega | (simp; done) | (simp; omega)
      obtain ⟨ad74, rfl⟩ := rd_some (hS.rdRo 0 rfl) hlt_hx73
      obtain ⟨x73, hx73⟩ := get_some hlt_hx73
      have hb_x73 := hmem x73 (List.mem_of_getElem? hx73)
      refine seq_yl hF (wn_none rfl) rfl rfl (yl_indexAddr hF rfl rfl rfl (fun _ => run_idx' sl22 sz3 (hS.rdRo 0 rfl) hlt_hx73)) ?_
      clear hF; intro a hF
      refine seq_yl hF (wn_none rfl) rfl rfl (yl_loadAt hF rfl rfl ag3 (fun _ h => rd_cell0 (by subst h; exact hS.rdRo 0 rfl) encI_len hx73 rfl rfl)) ?_
      clear hF; intro a hF
      refine seq_yl hF (wn_none rfl) rfl rfl (yl_assign hF rfl rfl) ?_
      clear hF; intro a hF
      refine wpList_nil ?_
      refine then_n ?_
      refine c_region ?_
      refine seq_yl hF (wn_none rfl) rfl rfl (yl_move hF rfl rfl) ?_
      clear hF; intro a hF
      refine seq_yl hF (wn_none rfl) rfl rfl (yl_move hF rfl rfl) ?_
      clear hF; intro a hF
      refine seq_yl hF (wn_none rfl) rfl rfl (yl_bin hF rfl rfl rfl rfl (fun _ => run_add (by refine ⟨?_, ?_⟩ <;> omega))) ?_
      clear hF; intro a hF
      refine seq_yl hF (wn_none rfl) rfl rfl (yl_assign hF rfl rfl) ?_
      clear hF; intro a hF
      refine wpList_nil ?_
      refine inb_n ?_
      refine then_n ?_
      refine c_region ?_
      refine seq_yl hF (wn_none rfl) rfl rfl (yl_bin hF rfl rfl rfl rfl (fun _ => run_inc (by omega))) ?_
      clear hF; intro a hF
      refine seq_yl hF (wn_none rfl) rfl rfl (yl_move hF rfl rfl) ?_
      clear hF; intro a hF
      refine wpList_nil ?_
      refine then_n ?_
      exact ⟨_, (by omega), k + 1, _, rfl, ⟨by omega, by rw [sum_step hx73]; omega⟩, hF.to [3, 6, 7, 8] rfl, (hS.sub [0] (by decide) (by first | rfl | simp) (by simp))⟩
    · first | (replace hc72 := of_decide_eq_false hc72) | (replace hc72 := of_decide_eq_true (bnot_f hc72)) | (subst hc72) | (replace hc72 := bnot_f hc72; subst hc72) | (replace hc72 := bnot_f hc72) | skip
      refine wp_exit ?_
      refine then_x ?_
      refine then_x ?_
      refine inb_x ?_
      refine then_n ?_
      refine c_seq ?_
      refine c_region ?_
      refine seq_yl hF (wn_none rfl) rfl rfl (yl_move hF rfl rfl) ?_
      clear hF; intro a hF
      refine seq_yl hF (wn_none rfl) rfl rfl (yl_assign hF rfl rfl) ?_
      clear hF; intro a hF
      refine wpList_nil ?_
      refine then_n ?_
      refine wp_ret ?_
      refine ret_t hF rfl rfl ?_
      exact ⟨_, rfl, congrArg (Value.int .i64) (by rw [hinv.2, List.take_of_length_le (by omega)]), (hS.sub [] (by decide) (by first | rfl | simp) (by simp))⟩

theorem share_any (v : Value) (L : List Int) (p q : Int) (d l : Int) (w0 : World) (hv : Rd w0 1 v (L).length (cells encI (L))) (hL : L.length ≤ 1000000) :
    Fn Try.prog 20 #[.agg #[v, .int .i64 p, .int .i64 q], .int .i64 d, .int .i64 l] w0 (fun v w' => v = .int .i64 (shareF L p q d l) ∧ Sat w0 w' []) := by
  have hch : chkF L p q = true → (∀ e ∈ L, 0 ≤ e ∧ e ≤ 1000000) ∧ 1 ≤ L.length ∧ L.length ≤ 4 := fun h => ⟨(CI_of h).1.2.1, (CI_of h).2.2.2⟩
  obtain ⟨Av, cv, rfl⟩ := Rd.form hv
  refine c_enter (N := 47) (l := [_, _, _]) Try.func20 rfl rfl (fun a w hF hS => ?_)
  replace hS := hS.addRo hv
  refine c_seq ?_
  refine c_region ?_
  refine seq_wp (wn_none rfl) (wp_box (cs := #[_, _, _]) hF hS rfl rfl rfl rfl rfl ?_)
  clear hF hS; intro a w g75 hF hS
  refine seq_yl hF (wn_none rfl) rfl rfl (yl_assign hF rfl rfl) ?_
  clear hF; intro a hF
  refine wpList_nil ?_
  refine then_n ?_
  refine c_seq ?_
  refine c_seq ?_
  refine c_region ?_
  refine seq_yl hF (wn_none rfl) rfl rfl (yl_loadK (rs := [_, _, _]) (fun _ h => h ▸ hS) hF rfl rfl 0 rfl ag27 sz27 rfl rfl) ?_
  clear hF; intro a hF
  refine seq_wp (wn_none rfl) (wp_call (vs := [_]) hF rfl rfl rfl rfl cf14 (check_any _ L (p) (q) _ (hS.rdRo 1 rfl) (by first | omega | (simp; done) | (simp; omega) | (rw [stF_len]; first | omega | (simp; done) | (simp; omega)))) ?_)
  clear hF; rintro _ w ⟨rfl, hS1⟩ a hF
  replace hS := hS.callB hS1 rfl; clear hS1
  refine seq_yl hF (wn_none rfl) rfl rfl (yl_un hF rfl rfl (fun _ => run_not)) ?_
  clear hF; intro a hF
  refine seq_yl hF (wn_none rfl) rfl rfl (yl_move hF rfl rfl) ?_
  clear hF; intro a hF
  refine fr_split hF (fun hc76 hF => ?_) (fun hc76 hF => ?_)
  · first | (replace hc76 := of_decide_eq_true hc76) | (replace hc76 := of_decide_eq_false (bnot_t hc76)) | (subst hc76) | (replace hc76 := bnot_t hc76; subst hc76) | (replace hc76 := bnot_t hc76) | skip
    refine seq_skip hF (wn_f hF rfl rfl rfl rfl) rfl rfl ?_
    clear hF; intro a hF
    refine seq_skip hF (wn_f hF rfl rfl rfl rfl) rfl rfl ?_
    clear hF; intro a hF
    refine seq_yl hF (wn_none rfl) rfl rfl (yl_pick (u := _) (v := undef) hF rfl rfl (fun _ => rfl) (fun h => by cases h)) ?_
    clear hF; intro a hF
    refine seq_yl hF (wn_none rfl) rfl rfl (yl_move hF rfl rfl) ?_
    clear hF; intro a hF
    refine seq_skip hF (wn_f hF rfl rfl rfl rfl) rfl rfl ?_
    clear hF; intro a hF
    refine seq_skip hF (wn_f hF rfl rfl rfl rfl) rfl rfl ?_
    clear hF; intro a hF
    refine seq_skip hF (wn_f hF rfl rfl rfl rfl) rfl rfl ?_
    clear hF; intro a hF
    refine seq_skip hF (wn_f hF rfl rfl rfl rfl) rfl rfl ?_
    clear hF; intro a hF
    refine seq_skip hF (wn_f hF rfl rfl rfl rfl) rfl rfl ?_
    clear hF; intro a hF
    refine seq_yl hF (wn_none rfl) rfl rfl (yl_pick (u := _) (v := undef) hF rfl rfl (fun _ => rfl) (fun h => by cases h)) ?_
    clear hF; intro a hF
    refine seq_yl hF (wn_none rfl) rfl rfl (yl_move hF rfl rfl) ?_
    clear hF; intro a hF
    refine seq_skip hF (wn_f hF rfl rfl rfl rfl) rfl rfl ?_
    clear hF; intro a hF
    refine seq_skip hF (wn_f hF rfl rfl rfl rfl) rfl rfl ?_
    clear hF; intro a hF
    refine seq_skip hF (wn_f hF rfl rfl rfl rfl) rfl rfl ?_
    clear hF; intro a hF
    refine seq_yl hF (wn_none rfl) rfl rfl (yl_pick (u := _) (v := undef) hF rfl rfl (fun _ => rfl) (fun h => by cases h)) ?_
    clear hF; intro a hF
    refine wpList_nil ?_
    refine then_n ?_
    refine c_cond_t hF rfl ?_
    refine c_seq ?_
    refine c_region ?_
    refine seq_yl hF (wn_none rfl) rfl rfl (yl_assign hF rfl rfl) ?_
    clear hF; intro a hF
    refine wpList_nil ?_
    refine then_n ?_
    refine wp_ret ?_
    refine then_r ?_
    refine ret_t hF rfl rfl ?_
    exact ⟨_, rfl, congrArg (Value.int .i64) (by first | exact sh_1 (by assumption) | exact sh_2 (by omega)), (hS.sub [] (by decide) (by first | rfl | simp) (by simp))⟩
  · first | (replace hc76 := of_decide_eq_false hc76) | (replace hc76 := of_decide_eq_true (bnot_f hc76)) | (subst hc76) | (replace hc76 := bnot_f hc76; subst hc76) | (replace hc76 := bnot_f hc76) | skip
    refine seq_yl hF (wn_t hF rfl rfl rfl rfl) rfl rfl (yl_move hF rfl rfl) ?_
    clear hF; intro a hF
    refine seq_yl hF (wn_t hF rfl rfl rfl rfl) rfl rfl (yl_bin hF rfl rfl rfl rfl (fun _ => run_lss)) ?_
    clear hF; intro a hF
    refine seq_yl hF (wn_none rfl) rfl rfl (yl_pick (u := _) (v := undef) hF rfl rfl (fun h => by cases h) (fun _ => rfl)) ?_
    clear hF; intro a hF
    refine seq_yl hF (wn_none rfl) rfl rfl (yl_move hF rfl rfl) ?_
    clear hF; intro a hF
    refine fr_split hF (fun hc77 hF => ?_) (fun hc77 hF => ?_)
    · first | (replace hc77 := of_decide_eq_true hc77) | (replace hc77 := of_decide_eq_false (bnot_t hc77)) | (subst hc77) | (replace hc77 := bnot_t hc77; subst hc77) | (replace hc77 := bnot_t hc77) | skip
      refine seq_skip hF (wn_f hF rfl rfl rfl rfl) rfl rfl ?_
      clear hF; intro a hF
      refine seq_skip hF (wn_f hF rfl rfl rfl rfl) rfl rfl ?_
      clear hF; intro a hF
      refine seq_skip hF (wn_f hF rfl rfl rfl rfl) rfl rfl ?_
      clear hF; intro a hF
      refine seq_skip hF (wn_f hF rfl rfl rfl rfl) rfl rfl ?_
      clear hF; intro a hF
      refine seq_skip hF (wn_f hF rfl rfl rfl rfl) rfl rfl ?_
      clear hF; intro a hF
      refine seq_yl hF (wn_none rfl) rfl rfl (yl_pick (u := _) (v := undef) hF rfl rfl (fun _ => rfl) (fun h => by cases h)) ?_
      clear hF; intro a hF
      refine seq_yl hF (wn_none rfl) rfl rfl (yl_move hF rfl rfl) ?_
      clear hF; intro a hF
      refine seq_skip hF (wn_f hF rfl rfl rfl rfl) rfl rfl ?_
      clear hF; intro a hF
      refine seq_skip hF (wn_f hF rfl rfl rfl rfl) rfl rfl ?_
      clear hF; intro a hF
      refine seq_skip hF (wn_f hF rfl rfl rfl rfl) rfl rfl ?_
      clear hF; intro a hF
      refine seq_yl hF (wn_none rfl) rfl rfl (yl_pick (u := _) (v := undef) hF rfl rfl (fun _ => rfl) (fun h => by cases h)) ?_
      clear hF; intro a hF
      refine wpList_nil ?_
      refine then_n ?_
      refine c_cond_t hF rfl ?_
      refine c_seq ?_
      refine c_region ?_
      refine seq_yl hF (wn_none rfl) rfl rfl (yl_assign hF rfl rfl) ?_
      clear hF; intro a hF
      refine wpList_nil ?_
      refine then_n ?_
      refine wp_ret ?_
      refine then_r ?_
      refine ret_t hF rfl rfl ?_
      exact ⟨_, rfl, congrArg (Value.int .i64) (by first | exact sh_1 (by assumption) | exact sh_2 (by omega)), (hS.sub [] (by decide) (by first | rfl | simp) (by simp))⟩
    · first | (replace hc77 := of_decide_eq_false hc77) | (replace hc77 := of_decide_eq_true (bnot_f hc77)) | (subst hc77) | (replace hc77 := bnot_f hc77; subst hc77) | (replace hc77 := bnot_f hc77) | skip
      refine seq_yl hF (wn_t hF rfl rfl rfl rfl) rfl rfl (yl_move hF rfl rfl) ?_
      clear hF; intro a hF
      refine seq_yl hF (wn_t hF rfl rfl rfl rfl) rfl rfl (yl_fieldAddr hF rfl rfl (fun w => by kernel_rfl : ∀ w, (Instr.fieldAt 27 (.pointer (some ⟨g75, 0, none⟩)) 0).run Try.prog w = .ok (.pointer (some ⟨g75, 0, none⟩)) w)) ?_
      clear hF; intro a hF
      refine seq_yl hF (wn_t hF rfl rfl rfl rfl) rfl rfl (yl_load (fun _ h => h ▸ hS) hF rfl rfl 0 rfl ag22 rfl) ?_
      clear hF; intro a hF
      refine seq_yl hF (wn_t hF rfl rfl rfl rfl) rfl rfl (yl_len hF rfl rfl (fun _ => run_lenRd sl22 (hS.rdRo 1 rfl))) ?_
      clear hF; intro a hF
      refine seq_yl hF (wn_t hF rfl rfl rfl rfl) rfl rfl (yl_bin hF rfl rfl rfl rfl (fun _ => run_geq)) ?_
      clear hF; intro a hF
      refine seq_yl hF (wn_none rfl) rfl rfl (yl_pick (u := _) (v := undef) hF rfl rfl (fun h => by cases h) (fun _ => rfl)) ?_
      clear hF; intro a hF
      refine seq_yl hF (wn_none rfl) rfl rfl (yl_move hF rfl rfl) ?_
      clear hF; intro a hF
      refine fr_split hF (fun hc78 hF => ?_) (fun hc78 hF => ?_)
      · first | (replace hc78 := of_decide_eq_true hc78) | (replace hc78 := of_decide_eq_false (bnot_t hc78)) | (subst hc78) | (replace hc78 := bnot_t hc78; subst hc78) | (replace hc78 := bnot_t hc78) | skip
        refine seq_skip hF (wn_f hF rfl rfl rfl rfl) rfl rfl ?_
        clear hF; intro a hF
        refine seq_skip hF (wn_f hF rfl rfl rfl rfl) rfl rfl ?_
        clear hF; intro a hF
        refine seq_skip hF (wn_f hF rfl rfl rfl rfl) rfl rfl ?_
        clear hF; intro a hF
        refine seq_yl hF (wn_none rfl) rfl rfl (yl_pick (u := _) (v := undef) hF rfl rfl (fun _ => rfl) (fun h => by cases h)) ?_
        clear hF; intro a hF
        refine wpList_nil ?_
        refine then_n ?_
        refine c_cond_t hF rfl ?_
        refine c_seq ?_
        refine c_region ?_
        refine seq_yl hF (wn_none rfl) rfl rfl (yl_assign hF rfl rfl) ?_
        clear hF; intro a hF
        refine wpList_nil ?_
        refine then_n ?_
        refine wp_ret ?_
        refine then_r ?_
        refine ret_t hF rfl rfl ?_
        exact ⟨_, rfl, congrArg (Value.int .i64) (by first | exact sh_1 (by assumption) | exact sh_2 (by omega)), (hS.sub [] (by decide) (by first | rfl | simp) (by simp))⟩
      · first | (replace hc78 := of_decide_eq_false hc78) | (replace hc78 := of_decide_eq_true (bnot_f hc78)) | (subst hc78) | (replace hc78 := bnot_f hc78; subst hc78) | (replace hc78 := bnot_f hc78) | skip
        refine seq_yl hF (wn_t hF rfl rfl rfl rfl) rfl rfl (yl_move hF rfl rfl) ?_
        clear hF; intro a hF
        refine seq_wp (wn_t hF rfl rfl rfl rfl) (wp_call (vs := [_]) hF rfl rfl rfl rfl cf26 (pages_any (l) _) ?_)
        clear hF; rintro _ w ⟨rfl, hS1⟩ a hF
        replace hS := hS.callB hS1 rfl; clear hS1
        refine seq_yl hF (wn_t hF rfl rfl rfl rfl) rfl rfl (yl_un hF rfl rfl (fun _ => run_not)) ?_
        clear hF; intro a hF
        refine seq_yl hF (wn_none rfl) rfl rfl (yl_pick (u := _) (v := undef) hF rfl rfl (fun h => by cases h) (fun _ => rfl)) ?_
        clear hF; intro a hF
        refine wpList_nil ?_
        refine then_n ?_
        refine c_cond hF rfl (fun hc79 => ?_) (fun hc79 => ?_)
        · first | (replace hc79 := of_decide_eq_true hc79) | (replace hc79 := of_decide_eq_false (bnot_t hc79)) | (subst hc79) | (replace hc79 := bnot_t hc79; subst hc79) | (replace hc79 := bnot_t hc79) | skip
          refine c_seq ?_
          refine c_region ?_
          refine seq_yl hF (wn_none rfl) rfl rfl (yl_assign hF rfl rfl) ?_
          clear hF; intro a hF
          refine wpList_nil ?_
          refine then_n ?_
          refine wp_ret ?_
          refine then_r ?_
          refine ret_t hF rfl rfl ?_
          exact ⟨_, rfl, congrArg (Value.int .i64) (by first | exact sh_1 (by assumption) | exact sh_2 (by omega)), (hS.sub [] (by decide) (by first | rfl | simp) (by simp))⟩
        · first | (replace hc79 := of_decide_eq_false hc79) | (replace hc79 := of_decide_eq_true (bnot_f hc79)) | (subst hc79) | (replace hc79 := bnot_f hc79; subst hc79) | (replace hc79 := bnot_f hc79) | skip
          refine wp_skip ?_
          refine then_n ?_
          refine c_seq ?_
          refine c_seq ?_
          refine c_region ?_
          refine seq_yl hF (wn_none rfl) rfl rfl (yl_move hF rfl rfl) ?_
          clear hF; intro a hF
          refine seq_yl hF (wn_none rfl) rfl rfl (yl_bin hF rfl rfl rfl rfl (fun _ => run_leq)) ?_
          clear hF; intro a hF
          refine wpList_nil ?_
          refine then_n ?_
          refine c_cond hF rfl (fun hc80 => ?_) (fun hc80 => ?_)
          · first | (replace hc80 := of_decide_eq_true hc80) | (replace hc80 := of_decide_eq_false (bnot_t hc80)) | (subst hc80) | (replace hc80 := bnot_t hc80; subst hc80) | (replace hc80 := bnot_t hc80) | skip
            refine c_seq ?_
            refine c_region ?_
            refine seq_yl hF (wn_none rfl) rfl rfl (yl_move hF rfl rfl) ?_
            clear hF; intro a hF
            refine seq_yl hF (wn_none rfl) rfl rfl (yl_assign hF rfl rfl) ?_
            clear hF; intro a hF
            refine wpList_nil ?_
            refine then_n ?_
            refine wp_ret ?_
            refine then_r ?_
            refine ret_t hF rfl rfl ?_
            exact ⟨_, rfl, congrArg (Value.int .i64) (sh_3 (by assumption) (by omega) (by omega)), (hS.sub [] (by decide) (by first | rfl | simp) (by simp))⟩
          · first | (replace hc80 := of_decide_eq_false hc80) | (replace hc80 := of_decide_eq_true (bnot_f hc80)) | (subst hc80) | (replace hc80 := bnot_f hc80; subst hc80) | (replace hc80 := bnot_f hc80) | skip
            refine wp_skip ?_
            refine then_n ?_
            refine c_seq ?_
            refine ha_startS hS [0, 1] 19 (by kernel_rfl) ?_; clear hS; intro w hS
            have hSS := hS.sub [0, 1] (by decide) rfl (by simp)
            obtain ⟨hmem, hl1, hl4⟩ := hch (by assumption)
            have hsu := sum_in hmem
            refine ha_yl 0 hF rfl rfl rfl (by kernel_rfl) (by kernel_rfl) (by kernel_rfl) (by decide) (fun _ _ _ h => h) (wn_none rfl) (.inr hSS) (yl_move hF rfl rfl) ?_
            clear hF; intro a hF
            refine ha_yl 1 hF rfl rfl rfl (by kernel_rfl) (by kernel_rfl) (by kernel_rfl) (by decide) (fun _ _ _ h => h) (wn_none rfl) (.inr hSS) (yl_bin hF rfl rfl rfl rfl (fun _ => run_sub (by refine ⟨?_, ?_⟩ <;> omega))) ?_
            clear hF; intro a hF
            refine ha_yl 2 hF rfl rfl rfl (by kernel_rfl) (by kernel_rfl) (by kernel_rfl) (by decide) (fun _ _ _ h => h) (wn_none rfl) (.inr hSS) (yl_fieldAddr hF rfl rfl (fun w => by kernel_rfl : ∀ w, (Instr.fieldAt 27 (.pointer (some ⟨g75, 0, none⟩)) 0).run Try.prog w = .ok (.pointer (some ⟨g75, 0, none⟩)) w)) ?_
            clear hF; intro a hF
            refine ha_yl 4 hF rfl rfl rfl (by kernel_rfl) (by kernel_rfl) (by kernel_rfl) (by decide) (fun _ _ _ h => h) (wn_none rfl) (.inr hSS) (yl_move hF rfl rfl) ?_
            clear hF; intro a hF
            replace hF := fr_seti (b' := ((d.toNat : Nat) : Int)) hF (by omega)
            refine ha_yl 9 hF rfl rfl rfl (by kernel_rfl) (by kernel_rfl) (by kernel_rfl) (by decide) (fun _ _ _ h => h) (wn_none rfl) (.inr hSS) (yl_fieldAddr hF rfl rfl (fun w => by kernel_rfl : ∀ w, (Instr.fieldAt 27 (.pointer (some ⟨g75, 0, none⟩)) 0).run Try.prog w = .ok (.pointer (some ⟨g75, 0, none⟩)) w)) ?_
            clear hF; intro a hF
            refine ha_yl 12 hF rfl rfl rfl (by kernel_rfl) (by kernel_rfl) (by kernel_rfl) (by decide) (fun _ _ _ h => h) (wn_none rfl) (.inr hSS) (yl_fieldAddr hF rfl rfl (fun w => by kernel_rfl : ∀ w, (Instr.fieldAt 27 (.pointer (some ⟨g75, 0, none⟩)) 0).run Try.prog w = .ok (.pointer (some ⟨g75, 0, none⟩)) w)) ?_
            clear hF; intro a hF
            refine ha_ld 3 hF rfl rfl rfl (by kernel_rfl) (by kernel_rfl) (by kernel_rfl) (by decide) (by kernel_rfl) (by kernel_rfl) (fun _ _ _ h => h) (wn_none rfl) hSS (yl_load (fun _ h => h) hF rfl rfl 0 rfl ag22 rfl) ?_
            clear hF; intro a hF
            have hlt_hx81 : d.toNat < (L).length := by first | omega | (simp; done) | (simp; omega)
            obtain ⟨ad82, rfl⟩ := rd_some (hS.rdRo 1 rfl) hlt_hx81
            obtain ⟨x81, hx81⟩ := get_some hlt_hx81
            have hb_x81 := hmem x81 (List.mem_of_getElem? hx81)
            refine ha_yl 5 hF rfl rfl rfl (by kernel_rfl) (by kernel_rfl) (by kernel_rfl) (by decide) (fun _ _ _ h => h) (wn_none rfl) (.inr hSS) (yl_indexAddr hF rfl rfl rfl (fun _ => run_idx' sl22 sz3 (hS.rdRo 1 rfl) hlt_hx81)) ?_
            clear hF; intro a hF
            refine ha_ld 6 hF rfl rfl rfl (by kernel_rfl) (by kernel_rfl) (by kernel_rfl) (by decide) (by kernel_rfl) (by kernel_rfl) (fun _ _ _ h => h) (wn_none rfl) hSS (yl_loadAt hF rfl rfl ag3 (fun _ h => rd_cell0 (Sat.rdRo h 1 rfl) encI_len hx81 rfl rfl)) ?_
            clear hF; intro a hF
            refine ha_yl 7 hF rfl rfl rfl (by kernel_rfl) (by kernel_rfl) (by kernel_rfl) (by decide) (fun _ _ _ h => h) (wn_none rfl) (.inr hSS) (yl_bin hF rfl rfl rfl rfl (fun _ => run_add (by refine ⟨?_, ?_⟩ <;> omega))) ?_
            clear hF; intro a hF
            refine ha_yl 8 hF rfl rfl rfl (by kernel_rfl) (by kernel_rfl) (by kernel_rfl) (by decide) (fun _ _ _ h => h) (wn_none rfl) (.inr hSS) (yl_bin hF rfl rfl rfl rfl (fun _ => run_mul (mul_fit 64 1000001 (by omega) (by omega) (by omega) (by omega) (by omega)))) ?_
            clear hF; intro a hF
            refine ha_ld 10 hF rfl rfl rfl (by kernel_rfl) (by kernel_rfl) (by kernel_rfl) (by decide) (by kernel_rfl) (by kernel_rfl) (fun _ _ _ h => h) (wn_none rfl) hSS (yl_load (fun _ h => h) hF rfl rfl 0 rfl ag22 rfl) ?_
            clear hF; intro a hF
            refine ha_ld 13 hF rfl rfl rfl (by kernel_rfl) (by kernel_rfl) (by kernel_rfl) (by decide) (by kernel_rfl) (by kernel_rfl) (fun _ _ _ h => h) (wn_none rfl) hSS (yl_load (fun _ h => h) hF rfl rfl 0 rfl ag22 rfl) ?_
            clear hF; intro a hF
            refine ha_yl 14 hF rfl rfl rfl (by kernel_rfl) (by kernel_rfl) (by kernel_rfl) (by decide) (fun _ _ _ h => h) (wn_none rfl) (.inr hSS) (yl_len hF rfl rfl (fun _ => run_lenRd sl22 (hS.rdRo 1 rfl))) ?_
            clear hF; intro a hF
            refine ha_one 11 (by kernel_rfl) rfl (wn_none rfl) (wp_call (vs := [_]) hF rfl rfl rfl rfl cf27 (sum_any _ L _ (hS.rdRo 1 rfl) hmem (by omega)) ?_)
            clear hF; rintro _ w ⟨rfl, hS1⟩ a hF
            replace hS := hS.callB hS1 rfl; clear hS1
            replace hSS := hS.sub [0, 1] (by decide) rfl (by simp)
            refine ⟨.inr hSS, ?_⟩
            refine ha_yl 15 hF rfl rfl rfl (by kernel_rfl) (by kernel_rfl) (by kernel_rfl) (by decide) (fun _ _ _ h => h) (wn_none rfl) (.inr hSS) (yl_bin hF rfl rfl rfl rfl (fun _ => run_add (by refine ⟨?_, ?_⟩ <;> omega))) ?_
            clear hF; intro a hF
            refine ha_yl 16 hF rfl rfl rfl (by kernel_rfl) (by kernel_rfl) (by kernel_rfl) (by decide) (fun _ _ _ h => h) (wn_none rfl) (.inr hSS) (yl_bin hF rfl rfl rfl rfl (fun _ => run_quoN (Int.mul_nonneg (by omega) (by omega)) (by omega) (mul_fit 64 1000001 (by omega) (by omega) (by omega) (by omega) (by omega)).2)) ?_
            clear hF; intro a hF
            refine ha_yl 17 hF rfl rfl rfl (by kernel_rfl) (by kernel_rfl) (by kernel_rfl) (by decide) (fun _ _ _ h => h) (wn_none rfl) (.inr hSS) (yl_bin hF rfl rfl rfl rfl (fun _ => run_add (by have := sh_q (l := l - 5) (p := p) (q := q) (by assumption) (by omega) hx81; exact ⟨by omega, by omega⟩))) ?_
            clear hF; intro a hF
            refine ha_yl 18 hF rfl rfl rfl (by kernel_rfl) (by kernel_rfl) (by kernel_rfl) (by decide) (fun _ _ _ h => h) (wn_none rfl) (.inr hSS) (yl_assign hF rfl rfl) ?_
            clear hF; intro a hF
            refine ha_done (by kernel_rfl) ?_ _
            refine then_n ?_
            refine wp_ret ?_
            refine ret_t hF rfl rfl ?_
            exact ⟨_, rfl, congrArg (Value.int .i64) (sh_4 (by assumption) (by omega) (by omega) hx81), (hS.sub [] (by decide) (by first | rfl | simp) (by simp))⟩

theorem share2_any (v : Value) (L : List Int) (p q : Int) (d l : Int) (w0 : World) (hv : Rd w0 1 v (L).length (cells encI (L))) (hL : L.length ≤ 1000000) :
    Fn Try.prog 21 #[.agg #[v, .int .i64 p, .int .i64 q], .int .i64 d, .int .i64 l] w0 (fun v w' => v = .int .i64 (shareF L p q d l) ∧ Sat w0 w' []) := by
  have hch : chkF L p q = true → (∀ e ∈ L, 0 ≤ e ∧ e ≤ 1000000) ∧ 1 ≤ L.length ∧ L.length ≤ 4 := fun h => ⟨(CI_of h).1.2.1, (CI_of h).2.2.2⟩
  obtain ⟨Av, cv, rfl⟩ := Rd.form hv
  refine c_enter (N := 64) (l := [_, _, _]) Try.func21 rfl rfl (fun a w hF hS => ?_)
  replace hS := hS.addRo hv
  refine c_seq ?_
  refine c_region ?_
  refine seq_wp (wn_none rfl) (wp_box (cs := #[_, _, _]) hF hS rfl rfl rfl rfl rfl ?_)
  clear hF hS; intro a w g83 hF hS
  refine seq_yl hF (wn_none rfl) rfl rfl (yl_assign hF rfl rfl) ?_
  clear hF; intro a hF
  refine wpList_nil ?_
  refine then_n ?_
  refine c_seq ?_
  refine c_seq ?_
  refine c_region ?_
  refine seq_yl hF (wn_none rfl) rfl rfl (yl_loadK (rs := [_, _, _]) (fun _ h => h ▸ hS) hF rfl rfl 0 rfl ag27 sz27 rfl rfl) ?_
  clear hF; intro a hF
  refine seq_wp (wn_none rfl) (wp_call (vs := [_]) hF rfl rfl rfl rfl cf15 (check2_any _ L (p) (q) _ (hS.rdRo 1 rfl) (by first | omega | (simp; done) | (simp; omega) | (rw [stF_len]; first | omega | (simp; done) | (simp; omega)))) ?_)
  clear hF; rintro _ w ⟨rfl, hS1⟩ a hF
  replace hS := hS.callB hS1 rfl; clear hS1
  refine seq_yl hF (wn_none rfl) rfl rfl (yl_un hF rfl rfl (fun _ => run_not)) ?_
  clear hF; intro a hF
  refine seq_yl hF (wn_none rfl) rfl rfl (yl_move hF rfl rfl) ?_
  clear hF; intro a hF
  refine fr_split hF (fun hc84 hF => ?_) (fun hc84 hF => ?_)
  · first | (replace hc84 := of_decide_eq_true hc84) | (replace hc84 := of_decide_eq_false (bnot_t hc84)) | (subst hc84) | (replace hc84 := bnot_t hc84; subst hc84) | (replace hc84 := bnot_t hc84) | skip
    refine seq_skip hF (wn_f hF rfl rfl rfl rfl) rfl rfl ?_
    clear hF; intro a hF
    refine seq_skip hF (wn_f hF rfl rfl rfl rfl) rfl rfl ?_
    clear hF; intro a hF
    refine seq_yl hF (wn_none rfl) rfl rfl (yl_pick (u := _) (v := undef) hF rfl rfl (fun _ => rfl) (fun h => by cases h)) ?_
    clear hF; intro a hF
    refine seq_yl hF (wn_none rfl) rfl rfl (yl_move hF rfl rfl) ?_
    clear hF; intro a hF
    refine seq_skip hF (wn_f hF rfl rfl rfl rfl) rfl rfl ?_
    clear hF; intro a hF
    refine seq_skip hF (wn_f hF rfl rfl rfl rfl) rfl rfl ?_
    clear hF; intro a hF
    refine seq_skip hF (wn_f hF rfl rfl rfl rfl) rfl rfl ?_
    clear hF; intro a hF
    refine seq_skip hF (wn_f hF rfl rfl rfl rfl) rfl rfl ?_
    clear hF; intro a hF
    refine seq_skip hF (wn_f hF rfl rfl rfl rfl) rfl rfl ?_
    clear hF; intro a hF
    refine seq_yl hF (wn_none rfl) rfl rfl (yl_pick (u := _) (v := undef) hF rfl rfl (fun _ => rfl) (fun h => by cases h)) ?_
    clear hF; intro a hF
    refine seq_yl hF (wn_none rfl) rfl rfl (yl_move hF rfl rfl) ?_
    clear hF; intro a hF
    refine seq_skip hF (wn_f hF rfl rfl rfl rfl) rfl rfl ?_
    clear hF; intro a hF
    refine seq_skip hF (wn_f hF rfl rfl rfl rfl) rfl rfl ?_
    clear hF; intro a hF
    refine seq_yl hF (wn_none rfl) rfl rfl (yl_pick (u := _) (v := undef) hF rfl rfl (fun _ => rfl) (fun h => by cases h)) ?_
    clear hF; intro a hF
    refine seq_yl hF (wn_none rfl) rfl rfl (yl_move hF rfl rfl) ?_
    clear hF; intro a hF
    refine seq_skip hF (wn_f hF rfl rfl rfl rfl) rfl rfl ?_
    clear hF; intro a hF
    refine seq_skip hF (wn_f hF rfl rfl rfl rfl) rfl rfl ?_
    clear hF; intro a hF
    refine seq_yl hF (wn_none rfl) rfl rfl (yl_pick (u := _) (v := undef) hF rfl rfl (fun _ => rfl) (fun h => by cases h)) ?_
    clear hF; intro a hF
    refine wpList_nil ?_
    refine then_n ?_
    refine c_cond_t hF rfl ?_
    refine c_seq ?_
    refine c_region ?_
    refine seq_yl hF (wn_none rfl) rfl rfl (yl_assign hF rfl rfl) ?_
    clear hF; intro a hF
    refine wpList_nil ?_
    refine then_n ?_
    refine wp_ret ?_
    refine then_r ?_
    refine ret_t hF rfl rfl ?_
    exact ⟨_, rfl, congrArg (Value.int .i64) (by first | exact sh_1 (by assumption) | exact sh_2 (by omega)), (hS.sub [] (by decide) (by first | rfl | simp) (by simp))⟩
  · first | (replace hc84 := of_decide_eq_false hc84) | (replace hc84 := of_decide_eq_true (bnot_f hc84)) | (subst hc84) | (replace hc84 := bnot_f hc84; subst hc84) | (replace hc84 := bnot_f hc84) | skip
    refine seq_yl hF (wn_t hF rfl rfl rfl rfl) rfl rfl (yl_move hF rfl rfl) ?_
    clear hF; intro a hF
    refine seq_yl hF (wn_t hF rfl rfl rfl rfl) rfl rfl (yl_bin hF rfl rfl rfl rfl (fun _ => run_lss)) ?_
    clear hF; intro a hF
    refine seq_yl hF (wn_none rfl) rfl rfl (yl_pick (u := _) (v := undef) hF rfl rfl (fun h => by cases h) (fun _ => rfl)) ?_
    clear hF; intro a hF
    refine seq_yl hF (wn_none rfl) rfl rfl (yl_move hF rfl rfl) ?_
    clear hF; intro a hF
    refine fr_split hF (fun hc85 hF => ?_) (fun hc85 hF => ?_)
    · first | (replace hc85 := of_decide_eq_true hc85) | (replace hc85 := of_decide_eq_false (bnot_t hc85)) | (subst hc85) | (replace hc85 := bnot_t hc85; subst hc85) | (replace hc85 := bnot_t hc85) | skip
      refine seq_skip hF (wn_f hF rfl rfl rfl rfl) rfl rfl ?_
      clear hF; intro a hF
      refine seq_skip hF (wn_f hF rfl rfl rfl rfl) rfl rfl ?_
      clear hF; intro a hF
      refine seq_skip hF (wn_f hF rfl rfl rfl rfl) rfl rfl ?_
      clear hF; intro a hF
      refine seq_skip hF (wn_f hF rfl rfl rfl rfl) rfl rfl ?_
      clear hF; intro a hF
      refine seq_skip hF (wn_f hF rfl rfl rfl rfl) rfl rfl ?_
      clear hF; intro a hF
      refine seq_yl hF (wn_none rfl) rfl rfl (yl_pick (u := _) (v := undef) hF rfl rfl (fun _ => rfl) (fun h => by cases h)) ?_
      clear hF; intro a hF
      refine seq_yl hF (wn_none rfl) rfl rfl (yl_move hF rfl rfl) ?_
      clear hF; intro a hF
      refine seq_skip hF (wn_f hF rfl rfl rfl rfl) rfl rfl ?_
      clear hF; intro a hF
      refine seq_skip hF (wn_f hF rfl rfl rfl rfl) rfl rfl ?_
      clear hF; intro a hF
      refine seq_yl hF (wn_none rfl) rfl rfl (yl_pick (u := _) (v := undef) hF rfl rfl (fun _ => rfl) (fun h => by cases h)) ?_
      clear hF; intro a hF
      refine seq_yl hF (wn_none rfl) rfl rfl (yl_move hF rfl rfl) ?_
      clear hF; intro a hF
      refine seq_skip hF (wn_f hF rfl rfl rfl rfl) rfl rfl ?_
      clear hF; intro a hF
      refine seq_skip hF (wn_f hF rfl rfl rfl rfl) rfl rfl ?_
      clear hF; intro a hF
      refine seq_yl hF (wn_none rfl) rfl rfl (yl_pick (u := _) (v := undef) hF rfl rfl (fun _ => rfl) (fun h => by cases h)) ?_
      clear hF; intro a hF
      refine wpList_nil ?_
      refine then_n ?_
      refine c_cond_t hF rfl ?_
      refine c_seq ?_
      refine c_region ?_
      refine seq_yl hF (wn_none rfl) rfl rfl (yl_assign hF rfl rfl) ?_
      clear hF; intro a hF
      refine wpList_nil ?_
      refine then_n ?_
      refine wp_ret ?_
      refine then_r ?_
      refine ret_t hF rfl rfl ?_
      exact ⟨_, rfl, congrArg (Value.int .i64) (by first | exact sh_1 (by assumption) | exact sh_2 (by omega)), (hS.sub [] (by decide) (by first | rfl | simp) (by simp))⟩
    · first | (replace hc85 := of_decide_eq_false hc85) | (replace hc85 := of_decide_eq_true (bnot_f hc85)) | (subst hc85) | (replace hc85 := bnot_f hc85; subst hc85) | (replace hc85 := bnot_f hc85) | skip
      refine seq_yl hF (wn_t hF rfl rfl rfl rfl) rfl rfl (yl_move hF rfl rfl) ?_
      clear hF; intro a hF
      refine seq_yl hF (wn_t hF rfl rfl rfl rfl) rfl rfl (yl_fieldAddr hF rfl rfl (fun w => by kernel_rfl : ∀ w, (Instr.fieldAt 27 (.pointer (some ⟨g83, 0, none⟩)) 0).run Try.prog w = .ok (.pointer (some ⟨g83, 0, none⟩)) w)) ?_
      clear hF; intro a hF
      refine seq_yl hF (wn_t hF rfl rfl rfl rfl) rfl rfl (yl_load (fun _ h => h ▸ hS) hF rfl rfl 0 rfl ag22 rfl) ?_
      clear hF; intro a hF
      refine seq_yl hF (wn_t hF rfl rfl rfl rfl) rfl rfl (yl_len hF rfl rfl (fun _ => run_lenRd sl22 (hS.rdRo 1 rfl))) ?_
      clear hF; intro a hF
      refine seq_yl hF (wn_t hF rfl rfl rfl rfl) rfl rfl (yl_bin hF rfl rfl rfl rfl (fun _ => run_geq)) ?_
      clear hF; intro a hF
      refine seq_yl hF (wn_none rfl) rfl rfl (yl_pick (u := _) (v := undef) hF rfl rfl (fun h => by cases h) (fun _ => rfl)) ?_
      clear hF; intro a hF
      refine seq_yl hF (wn_none rfl) rfl rfl (yl_move hF rfl rfl) ?_
      clear hF; intro a hF
      refine fr_split hF (fun hc86 hF => ?_) (fun hc86 hF => ?_)
      · first | (replace hc86 := of_decide_eq_true hc86) | (replace hc86 := of_decide_eq_false (bnot_t hc86)) | (subst hc86) | (replace hc86 := bnot_t hc86; subst hc86) | (replace hc86 := bnot_t hc86) | skip
        refine seq_skip hF (wn_f hF rfl rfl rfl rfl) rfl rfl ?_
        clear hF; intro a hF
        refine seq_skip hF (wn_f hF rfl rfl rfl rfl) rfl rfl ?_
        clear hF; intro a hF
        refine seq_yl hF (wn_none rfl) rfl rfl (yl_pick (u := _) (v := undef) hF rfl rfl (fun _ => rfl) (fun h => by cases h)) ?_
        clear hF; intro a hF
        refine seq_yl hF (wn_none rfl) rfl rfl (yl_move hF rfl rfl) ?_
        clear hF; intro a hF
        refine seq_skip hF (wn_f hF rfl rfl rfl rfl) rfl rfl ?_
        clear hF; intro a hF
        refine seq_skip hF (wn_f hF rfl rfl rfl rfl) rfl rfl ?_
        clear hF; intro a hF
        refine seq_yl hF (wn_none rfl) rfl rfl (yl_pick (u := _) (v := undef) hF rfl rfl (fun _ => rfl) (fun h => by cases h)) ?_
        clear hF; intro a hF
        refine wpList_nil ?_
        refine then_n ?_
        refine c_cond_t hF rfl ?_
        refine c_seq ?_
        refine c_region ?_
        refine seq_yl hF (wn_none rfl) rfl rfl (yl_assign hF rfl rfl) ?_
        clear hF; intro a hF
        refine wpList_nil ?_
        refine then_n ?_
        refine wp_ret ?_
        refine then_r ?_
        refine ret_t hF rfl rfl ?_
        exact ⟨_, rfl, congrArg (Value.int .i64) (by first | exact sh_1 (by assumption) | exact sh_2 (by omega)), (hS.sub [] (by decide) (by first | rfl | simp) (by simp))⟩
      · first | (replace hc86 := of_decide_eq_false hc86) | (replace hc86 := of_decide_eq_true (bnot_f hc86)) | (subst hc86) | (replace hc86 := bnot_f hc86; subst hc86) | (replace hc86 := bnot_f hc86) | skip
        refine seq_yl hF (wn_t hF rfl rfl rfl rfl) rfl rfl (yl_move hF rfl rfl) ?_
        clear hF; intro a hF
        refine seq_yl hF (wn_t hF rfl rfl rfl rfl) rfl rfl (yl_bin hF rfl rfl rfl rfl (fun _ => run_lss)) ?_
        clear hF; intro a hF
        refine seq_yl hF (wn_none rfl) rfl rfl (yl_pick (u := _) (v := undef) hF rfl rfl (fun h => by cases h) (fun _ => rfl)) ?_
        clear hF; intro a hF
        refine seq_yl hF (wn_none rfl) rfl rfl (yl_move hF rfl rfl) ?_
        clear hF; intro a hF
        refine fr_split hF (fun hc87 hF => ?_) (fun hc87 hF => ?_)
        · first | (replace hc87 := of_decide_eq_true hc87) | (replace hc87 := of_decide_eq_false (bnot_t hc87)) | (subst hc87) | (replace hc87 := bnot_t hc87; subst hc87) | (replace hc87 := bnot_t hc87) | skip
          refine seq_skip hF (wn_f hF rfl rfl rfl rfl) rfl rfl ?_
          clear hF; intro a hF
          refine seq_skip hF (wn_f hF rfl rfl rfl rfl) rfl rfl ?_
          clear hF; intro a hF
          refine seq_yl hF (wn_none rfl) rfl rfl (yl_pick (u := _) (v := undef) hF rfl rfl (fun _ => rfl) (fun h => by cases h)) ?_
          clear hF; intro a hF
          refine wpList_nil ?_
          refine then_n ?_
          refine c_cond_t hF rfl ?_
          refine c_seq ?_
          refine c_region ?_
          refine seq_yl hF (wn_none rfl) rfl rfl (yl_assign hF rfl rfl) ?_
          clear hF; intro a hF
          refine wpList_nil ?_
          refine then_n ?_
          refine wp_ret ?_
          refine then_r ?_
          refine ret_t hF rfl rfl ?_
          exact ⟨_, rfl, congrArg (Value.int .i64) (by first | exact sh_1 (by assumption) | exact sh_2 (by omega)), (hS.sub [] (by decide) (by first | rfl | simp) (by simp))⟩
        · first | (replace hc87 := of_decide_eq_false hc87) | (replace hc87 := of_decide_eq_true (bnot_f hc87)) | (subst hc87) | (replace hc87 := bnot_f hc87; subst hc87) | (replace hc87 := bnot_f hc87) | skip
          refine seq_yl hF (wn_t hF rfl rfl rfl rfl) rfl rfl (yl_move hF rfl rfl) ?_
          clear hF; intro a hF
          refine seq_yl hF (wn_t hF rfl rfl rfl rfl) rfl rfl (yl_bin hF rfl rfl rfl rfl (fun _ => run_gtr)) ?_
          clear hF; intro a hF
          refine seq_yl hF (wn_none rfl) rfl rfl (yl_pick (u := _) (v := undef) hF rfl rfl (fun h => by cases h) (fun _ => rfl)) ?_
          clear hF; intro a hF
          refine wpList_nil ?_
          refine then_n ?_
          refine c_cond hF rfl (fun hc88 => ?_) (fun hc88 => ?_)
          · first | (replace hc88 := of_decide_eq_true hc88) | (replace hc88 := of_decide_eq_false (bnot_t hc88)) | (subst hc88) | (replace hc88 := bnot_t hc88; subst hc88) | (replace hc88 := bnot_t hc88) | skip
            refine c_seq ?_
            refine c_region ?_
            refine seq_yl hF (wn_none rfl) rfl rfl (yl_assign hF rfl rfl) ?_
            clear hF; intro a hF
            refine wpList_nil ?_
            refine then_n ?_
            refine wp_ret ?_
            refine then_r ?_
            refine ret_t hF rfl rfl ?_
            exact ⟨_, rfl, congrArg (Value.int .i64) (by first | exact sh_1 (by assumption) | exact sh_2 (by omega)), (hS.sub [] (by decide) (by first | rfl | simp) (by simp))⟩
          · first | (replace hc88 := of_decide_eq_false hc88) | (replace hc88 := of_decide_eq_true (bnot_f hc88)) | (subst hc88) | (replace hc88 := bnot_f hc88; subst hc88) | (replace hc88 := bnot_f hc88) | skip
            refine wp_skip ?_
            refine then_n ?_
            refine c_seq ?_
            refine c_region ?_
            refine seq_yl hF (wn_none rfl) rfl rfl (yl_assign hF rfl rfl) ?_
            clear hF; intro a hF
            refine wpList_nil ?_
            refine then_n ?_
            refine c_seq ?_
            refine c_seq ?_
            refine c_region ?_
            refine seq_yl hF (wn_none rfl) rfl rfl (yl_assign hF rfl rfl) ?_
            clear hF; intro a hF
            refine wpList_nil ?_
            refine then_n ?_
            refine wp_block ?_
            obtain ⟨hmem, hl1, hl4⟩ := hch (by assumption)
            refine c_loop (fun m a w => ∃ (k : Nat) (t : Int), m = L.length - k ∧ (k ≤ L.length ∧ t = (L.take k).sum) ∧ Fr 64 a [(1, .int .i64 (d)), (2, .int .i64 (l)), (3, .pointer (some ⟨g83, 0, none⟩)), (7, .int .i64 (t)), (8, .int .i64 ((k : Nat) : Int))] ∧ Sat w0 w (.ro 1 (.slice Av (L).length cv) (L).length (cells encI (L)) :: .box g83 27 #[.slice Av (L).length cv, .int .i64 (p), .int .i64 (q)] :: [])) (L.length - 0) ?_ ?_
            · exact ⟨0, 0, rfl, ⟨Nat.zero_le _, by simp⟩, hF.to [1, 2, 3, 7, 8] rfl, (hS.sub [1, 0] (by decide) (by first | rfl | simp) (by simp))⟩
            · clear hF hS; try clear hSS
              clear a w; rintro m a w ⟨k, t, rfl, hinv, hF, hS⟩
              have hk := hinv.1
              have hts := hinv.2
              have hti := sum_in (L := L.take k) (fun e he => hmem e (List.mem_of_mem_take he))
              rw [← hts, List.length_take] at hti
              refine c_seq ?_
              refine c_seq ?_
              refine c_region ?_
              refine seq_yl hF (wn_none rfl) rfl rfl (yl_move hF rfl rfl) ?_
              clear hF; intro a hF
              refine seq_yl hF (wn_none rfl) rfl rfl (yl_fieldAddr hF rfl rfl (fun w => by kernel_rfl : ∀ w, (Instr.fieldAt 27 (.pointer (some ⟨g83, 0, none⟩)) 0).run Try.prog w = .ok (.pointer (some ⟨g83, 0, none⟩)) w)) ?_
              clear hF; intro a hF
              refine seq_yl hF (wn_none rfl) rfl rfl (yl_load (fun _ h => h ▸ hS) hF rfl rfl 1 rfl ag22 rfl) ?_
              clear hF; intro a hF
              refine seq_yl hF (wn_none rfl) rfl rfl (yl_len hF rfl rfl (fun _ => run_lenRd sl22 (hS.rdRo 0 rfl))) ?_
              clear hF; intro a hF
              refine seq_yl hF (wn_none rfl) rfl rfl (yl_bin hF rfl rfl rfl rfl (fun _ => run_lss)) ?_
              clear hF; intro a hF
              refine wpList_nil ?_
              refine then_n ?_
              refine c_cond hF rfl (fun hc89 => ?_) (fun hc89 => ?_)
              · first | (replace hc89 := of_decide_eq_true hc89) | (replace hc89 := of_decide_eq_false (bnot_t hc89)) | (subst hc89) | (replace hc89 := bnot_t hc89; subst hc89) | (replace hc89 := bnot_t hc89) | skip
                refine wp_skip ?_
                refine then_n ?_
                refine c_seq ?_
                refine wp_block ?_
                refine c_region ?_
                refine seq_yl hF (wn_none rfl) rfl rfl (yl_move hF rfl rfl) ?_
                clear hF; intro a hF
                refine seq_yl hF (wn_none rfl) rfl rfl (yl_fieldAddr hF rfl rfl (fun w => by kernel_rfl : ∀ w, (Instr.fieldAt 27 (.pointer (some ⟨g83, 0, none⟩)) 0).run Try.prog w = .ok (.pointer (some ⟨g83, 0, none⟩)) w)) ?_
                clear hF; intro a hF
                refine seq_yl hF (wn_none rfl) rfl rfl (yl_load (fun _ h => h ▸ hS) hF rfl rfl 1 rfl ag22 rfl) ?_
                clear hF; intro a hF
                refine seq_yl hF (wn_none rfl) rfl rfl (yl_move hF rfl rfl) ?_
                clear hF; intro a hF
                have hlt_hx90 : k < (L).length := by first | omega | (simp; done) | (simp; omega)
                obtain ⟨ad91, rfl⟩ := rd_some (hS.rdRo 0 rfl) hlt_hx90
                obtain ⟨x90, hx90⟩ := get_some hlt_hx90
                have hb_x90 := hmem x90 (List.mem_of_getElem? hx90)
                refine seq_yl hF (wn_none rfl) rfl rfl (yl_indexAddr hF rfl rfl rfl (fun _ => run_idx' sl22 sz3 (hS.rdRo 0 rfl) hlt_hx90)) ?_
                clear hF; intro a hF
                refine seq_yl hF (wn_none rfl) rfl rfl (yl_loadAt hF rfl rfl ag3 (fun _ h => rd_cell0 (by subst h; exact hS.rdRo 0 rfl) encI_len hx90 rfl rfl)) ?_
                clear hF; intro a hF
                refine seq_yl hF (wn_none rfl) rfl rfl (yl_bin hF rfl rfl rfl rfl (fun _ => run_add (by refine ⟨?_, ?_⟩ <;> omega))) ?_
                clear hF; intro a hF
                refine seq_yl hF (wn_none rfl) rfl rfl (yl_assign hF rfl rfl) ?_
                clear hF; intro a hF
                refine wpList_nil ?_
                refine inb_n ?_
                refine then_n ?_
                refine c_region ?_
                refine seq_yl hF (wn_none rfl) rfl rfl (yl_move hF rfl rfl) ?_
                clear hF; intro a hF
                refine seq_yl hF (wn_none rfl) rfl rfl (yl_bin hF rfl rfl rfl rfl (fun _ => run_inc (by omega))) ?_
                clear hF; intro a hF
                refine seq_yl hF (wn_none rfl) rfl rfl (yl_assign hF rfl rfl) ?_
                clear hF; intro a hF
                refine wpList_nil ?_
                refine then_n ?_
                exact ⟨_, (by omega), k + 1, _, rfl, ⟨by omega, by rw [sum_step hx90]; omega⟩, hF.to [1, 2, 3, 7, 8] rfl, (hS.sub [0, 1] (by decide) (by first | rfl | simp) (by simp))⟩
              · first | (replace hc89 := of_decide_eq_false hc89) | (replace hc89 := of_decide_eq_true (bnot_f hc89)) | (subst hc89) | (replace hc89 := bnot_f hc89; subst hc89) | (replace hc89 := bnot_f hc89) | skip
                refine wp_exit ?_
                refine then_x ?_
                refine then_x ?_
                refine inb_x ?_
                refine then_n ?_
                refine c_seq ?_
                refine ha_startS hS [1, 0] 20 (by kernel_rfl) ?_; clear hS; intro w hS
                have hSS := hS.sub [1, 0] (by decide) rfl (by simp)
                have hts2 : t = L.sum := by rw [hts, List.take_of_length_le (by omega)]
                have hsu := sum_in hmem
                refine ha_yl 0 hF rfl rfl rfl (by kernel_rfl) (by kernel_rfl) (by kernel_rfl) (by decide) (fun _ _ _ h => h) (wn_none rfl) (.inr hSS) (yl_move hF rfl rfl) ?_
                clear hF; intro a hF
                refine ha_yl 1 hF rfl rfl rfl (by kernel_rfl) (by kernel_rfl) (by kernel_rfl) (by decide) (fun _ _ _ h => h) (wn_none rfl) (.inr hSS) (yl_bin hF rfl rfl rfl rfl (fun _ => run_sub (by refine ⟨?_, ?_⟩ <;> omega))) ?_
                clear hF; intro a hF
                refine ha_yl 2 hF rfl rfl rfl (by kernel_rfl) (by kernel_rfl) (by kernel_rfl) (by decide) (fun _ _ _ h => h) (wn_none rfl) (.inr hSS) (yl_max2 hF rfl rfl rfl) ?_
                clear hF; intro a hF
                refine ha_yl 3 hF rfl rfl rfl (by kernel_rfl) (by kernel_rfl) (by kernel_rfl) (by decide) (fun _ _ _ h => h) (wn_none rfl) (.inr hSS) (yl_fieldAddr hF rfl rfl (fun w => by kernel_rfl : ∀ w, (Instr.fieldAt 27 (.pointer (some ⟨g83, 0, none⟩)) 0).run Try.prog w = .ok (.pointer (some ⟨g83, 0, none⟩)) w)) ?_
                clear hF; intro a hF
                refine ha_yl 5 hF rfl rfl rfl (by kernel_rfl) (by kernel_rfl) (by kernel_rfl) (by decide) (fun _ _ _ h => h) (wn_none rfl) (.inr hSS) (yl_move hF rfl rfl) ?_
                clear hF; intro a hF
                replace hF := fr_seti (b' := ((d.toNat : Nat) : Int)) hF (by omega)
                refine ha_yl 10 hF rfl rfl rfl (by kernel_rfl) (by kernel_rfl) (by kernel_rfl) (by decide) (fun _ _ _ h => h) (wn_none rfl) (.inr hSS) (yl_move hF rfl rfl) ?_
                clear hF; intro a hF
                replace hF := fr_seti (b' := (L.sum)) hF (hts2)
                refine ha_yl 11 hF rfl rfl rfl (by kernel_rfl) (by kernel_rfl) (by kernel_rfl) (by decide) (fun _ _ _ h => h) (wn_none rfl) (.inr hSS) (yl_fieldAddr hF rfl rfl (fun w => by kernel_rfl : ∀ w, (Instr.fieldAt 27 (.pointer (some ⟨g83, 0, none⟩)) 0).run Try.prog w = .ok (.pointer (some ⟨g83, 0, none⟩)) w)) ?_
                clear hF; intro a hF
                refine ha_yl 17 hF rfl rfl rfl (by kernel_rfl) (by kernel_rfl) (by kernel_rfl) (by decide) (fun _ _ _ h => h) (wn_none rfl) (.inr hSS) (yl_move hF rfl rfl) ?_
                clear hF; intro a hF
                refine ha_ld 4 hF rfl rfl rfl (by kernel_rfl) (by kernel_rfl) (by kernel_rfl) (by decide) (by kernel_rfl) (by kernel_rfl) (fun _ _ _ h => h) (wn_none rfl) hSS (yl_load (fun _ h => h) hF rfl rfl 0 rfl ag22 rfl) ?_
                clear hF; intro a hF
                have hlt_hx92 : d.toNat < (L).length := by first | omega | (simp; done) | (simp; omega)
                obtain ⟨ad93, rfl⟩ := rd_some (hS.rdRo 0 rfl) hlt_hx92
                obtain ⟨x92, hx92⟩ := get_some hlt_hx92
                have hb_x92 := hmem x92 (List.mem_of_getElem? hx92)
                refine ha_yl 6 hF rfl rfl rfl (by kernel_rfl) (by kernel_rfl) (by kernel_rfl) (by decide) (fun _ _ _ h => h) (wn_none rfl) (.inr hSS) (yl_indexAddr hF rfl rfl rfl (fun _ => run_idx' sl22 sz3 (hS.rdRo 0 rfl) hlt_hx92)) ?_
                clear hF; intro a hF
                refine ha_ld 7 hF rfl rfl rfl (by kernel_rfl) (by kernel_rfl) (by kernel_rfl) (by decide) (by kernel_rfl) (by kernel_rfl) (fun _ _ _ h => h) (wn_none rfl) hSS (yl_loadAt hF rfl rfl ag3 (fun _ h => rd_cell0 (Sat.rdRo h 1 rfl) encI_len hx92 rfl rfl)) ?_
                clear hF; intro a hF
                refine ha_yl 8 hF rfl rfl rfl (by kernel_rfl) (by kernel_rfl) (by kernel_rfl) (by decide) (fun _ _ _ h => h) (wn_none rfl) (.inr hSS) (yl_bin hF rfl rfl rfl rfl (fun _ => run_add (by refine ⟨?_, ?_⟩ <;> omega))) ?_
                clear hF; intro a hF
                refine ha_yl 9 hF rfl rfl rfl (by kernel_rfl) (by kernel_rfl) (by kernel_rfl) (by decide) (fun _ _ _ h => h) (wn_none rfl) (.inr hSS) (yl_bin hF rfl rfl rfl rfl (fun _ => run_mul (mul_fit 64 1000001 (by omega) (by omega) (by omega) (by omega) (by omega)))) ?_
                clear hF; intro a hF
                refine ha_ld 12 hF rfl rfl rfl (by kernel_rfl) (by kernel_rfl) (by kernel_rfl) (by decide) (by kernel_rfl) (by kernel_rfl) (fun _ _ _ h => h) (wn_none rfl) hSS (yl_load (fun _ h => h) hF rfl rfl 0 rfl ag22 rfl) ?_
                clear hF; intro a hF
                refine ha_yl 13 hF rfl rfl rfl (by kernel_rfl) (by kernel_rfl) (by kernel_rfl) (by decide) (fun _ _ _ h => h) (wn_none rfl) (.inr hSS) (yl_len hF rfl rfl (fun _ => run_lenRd sl22 (hS.rdRo 0 rfl))) ?_
                clear hF; intro a hF
                refine ha_yl 14 hF rfl rfl rfl (by kernel_rfl) (by kernel_rfl) (by kernel_rfl) (by decide) (fun _ _ _ h => h) (wn_none rfl) (.inr hSS) (yl_bin hF rfl rfl rfl rfl (fun _ => run_add (by refine ⟨?_, ?_⟩ <;> omega))) ?_
                clear hF; intro a hF
                refine ha_yl 15 hF rfl rfl rfl (by kernel_rfl) (by kernel_rfl) (by kernel_rfl) (by decide) (fun _ _ _ h => h) (wn_none rfl) (.inr hSS) (yl_bin hF rfl rfl rfl rfl (fun _ => run_quoN (Int.mul_nonneg (by omega) (by omega)) (by omega) (mul_fit 64 1000001 (by omega) (by omega) (by omega) (by omega) (by omega)).2)) ?_
                clear hF; intro a hF
                refine ha_yl 16 hF rfl rfl rfl (by kernel_rfl) (by kernel_rfl) (by kernel_rfl) (by decide) (fun _ _ _ h => h) (wn_none rfl) (.inr hSS) (yl_bin hF rfl rfl rfl rfl (fun _ => run_add (by have := sh_q (l := max (l - 5) 0) (p := p) (q := q) (by assumption) (by omega) hx92; exact ⟨by omega, by omega⟩))) ?_
                clear hF; intro a hF
                refine ha_yl 18 hF rfl rfl rfl (by kernel_rfl) (by kernel_rfl) (by kernel_rfl) (by decide) (fun _ _ _ h => h) (wn_none rfl) (.inr hSS) (yl_min2 hF rfl rfl rfl) ?_
                clear hF; intro a hF
                refine ha_yl 19 hF rfl rfl rfl (by kernel_rfl) (by kernel_rfl) (by kernel_rfl) (by decide) (fun _ _ _ h => h) (wn_none rfl) (.inr hSS) (yl_assign hF rfl rfl) ?_
                clear hF; intro a hF
                refine ha_done (by kernel_rfl) ?_ _
                refine then_n ?_
                refine wp_ret ?_
                refine ret_t hF rfl rfl ?_
                exact ⟨_, rfl, congrArg (Value.int .i64) (by rw [← sh_ref (by assumption) (by omega) hx92]), (hS.sub [] (by decide) (by first | rfl | simp) (by simp))⟩

theorem limit_any (x1 x2 : Int) (w0 : World) :
    Fn Try.prog 16 #[.int .i64 x1, .int .i64 x2] w0 (fun v w' => v = .int .i64 (limF x1 x2) ∧ Sat w0 w' []) := by
  refine c_enter (N := 27) (l := [_, _]) Try.func16 rfl rfl (fun a w hF hS => ?_)
  refine c_seq ?_
  refine c_region ?_
  refine seq_yl hF (wn_none rfl) rfl rfl (yl_assign hF rfl rfl) ?_
  clear hF; intro a hF
  refine wpList_nil ?_
  refine then_n ?_
  refine c_seq ?_
  refine c_seq ?_
  refine c_region ?_
  refine seq_yl hF (wn_none rfl) rfl rfl (yl_move hF rfl rfl) ?_
  clear hF; intro a hF
  refine seq_yl hF (wn_none rfl) rfl rfl (yl_bin hF rfl rfl rfl rfl (fun _ => run_lss)) ?_
  clear hF; intro a hF
  refine seq_yl hF (wn_none rfl) rfl rfl (yl_move hF rfl rfl) ?_
  clear hF; intro a hF
  refine fr_split hF (fun hc94 hF => ?_) (fun hc94 hF => ?_)
  · first | (replace hc94 := of_decide_eq_true hc94) | (replace hc94 := of_decide_eq_false (bnot_t hc94)) | (subst hc94) | (replace hc94 := bnot_t hc94; subst hc94) | (replace hc94 := bnot_t hc94) | skip
    refine seq_skip hF (wn_f hF rfl rfl rfl rfl) rfl rfl ?_
    clear hF; intro a hF
    refine seq_skip hF (wn_f hF rfl rfl rfl rfl) rfl rfl ?_
    clear hF; intro a hF
    refine seq_skip hF (wn_f hF rfl rfl rfl rfl) rfl rfl ?_
    clear hF; intro a hF
    refine seq_yl hF (wn_none rfl) rfl rfl (yl_pick (u := _) (v := undef) hF rfl rfl (fun _ => rfl) (fun h => by cases h)) ?_
    clear hF; intro a hF
    refine seq_yl hF (wn_none rfl) rfl rfl (yl_move hF rfl rfl) ?_
    clear hF; intro a hF
    refine seq_skip hF (wn_f hF rfl rfl rfl rfl) rfl rfl ?_
    clear hF; intro a hF
    refine seq_skip hF (wn_f hF rfl rfl rfl rfl) rfl rfl ?_
    clear hF; intro a hF
    refine seq_yl hF (wn_none rfl) rfl rfl (yl_pick (u := _) (v := undef) hF rfl rfl (fun _ => rfl) (fun h => by cases h)) ?_
    clear hF; intro a hF
    refine seq_yl hF (wn_none rfl) rfl rfl (yl_move hF rfl rfl) ?_
    clear hF; intro a hF
    refine seq_skip hF (wn_f hF rfl rfl rfl rfl) rfl rfl ?_
    clear hF; intro a hF
    refine seq_skip hF (wn_f hF rfl rfl rfl rfl) rfl rfl ?_
    clear hF; intro a hF
    refine seq_yl hF (wn_none rfl) rfl rfl (yl_pick (u := _) (v := undef) hF rfl rfl (fun _ => rfl) (fun h => by cases h)) ?_
    clear hF; intro a hF
    refine wpList_nil ?_
    refine then_n ?_
    refine c_cond_t hF rfl ?_
    refine c_seq ?_
    refine c_region ?_
    refine seq_yl hF (wn_none rfl) rfl rfl (yl_assign hF rfl rfl) ?_
    clear hF; intro a hF
    refine wpList_nil ?_
    refine then_n ?_
    refine wp_ret ?_
    refine then_r ?_
    refine ret_t hF rfl rfl ?_
    exact ⟨_, rfl, congrArg (Value.int .i64) (by unfold limF; rw [if_neg (by omega)]), (hS.sub [] (by decide) (by first | rfl | simp) (by simp))⟩
  · first | (replace hc94 := of_decide_eq_false hc94) | (replace hc94 := of_decide_eq_true (bnot_f hc94)) | (subst hc94) | (replace hc94 := bnot_f hc94; subst hc94) | (replace hc94 := bnot_f hc94) | skip
    refine seq_yl hF (wn_t hF rfl rfl rfl rfl) rfl rfl (yl_move hF rfl rfl) ?_
    clear hF; intro a hF
    refine seq_wp (wn_t hF rfl rfl rfl rfl) (wp_call (vs := [_]) hF rfl rfl rfl rfl cf26 (pages_any (x1) _) ?_)
    clear hF; rintro _ w ⟨rfl, hS1⟩ a hF
    replace hS := hS.callB hS1 rfl; clear hS1
    refine seq_yl hF (wn_t hF rfl rfl rfl rfl) rfl rfl (yl_un hF rfl rfl (fun _ => run_not)) ?_
    clear hF; intro a hF
    refine seq_yl hF (wn_none rfl) rfl rfl (yl_pick (u := _) (v := undef) hF rfl rfl (fun h => by cases h) (fun _ => rfl)) ?_
    clear hF; intro a hF
    refine seq_yl hF (wn_none rfl) rfl rfl (yl_move hF rfl rfl) ?_
    clear hF; intro a hF
    refine fr_split hF (fun hc95 hF => ?_) (fun hc95 hF => ?_)
    · first | (replace hc95 := of_decide_eq_true hc95) | (replace hc95 := of_decide_eq_false (bnot_t hc95)) | (subst hc95) | (replace hc95 := bnot_t hc95; subst hc95) | (replace hc95 := bnot_t hc95) | skip
      refine seq_skip hF (wn_f hF rfl rfl rfl rfl) rfl rfl ?_
      clear hF; intro a hF
      refine seq_skip hF (wn_f hF rfl rfl rfl rfl) rfl rfl ?_
      clear hF; intro a hF
      refine seq_yl hF (wn_none rfl) rfl rfl (yl_pick (u := _) (v := undef) hF rfl rfl (fun _ => rfl) (fun h => by cases h)) ?_
      clear hF; intro a hF
      refine seq_yl hF (wn_none rfl) rfl rfl (yl_move hF rfl rfl) ?_
      clear hF; intro a hF
      refine seq_skip hF (wn_f hF rfl rfl rfl rfl) rfl rfl ?_
      clear hF; intro a hF
      refine seq_skip hF (wn_f hF rfl rfl rfl rfl) rfl rfl ?_
      clear hF; intro a hF
      refine seq_yl hF (wn_none rfl) rfl rfl (yl_pick (u := _) (v := undef) hF rfl rfl (fun _ => rfl) (fun h => by cases h)) ?_
      clear hF; intro a hF
      refine wpList_nil ?_
      refine then_n ?_
      refine c_cond_t hF rfl ?_
      refine c_seq ?_
      refine c_region ?_
      refine seq_yl hF (wn_none rfl) rfl rfl (yl_assign hF rfl rfl) ?_
      clear hF; intro a hF
      refine wpList_nil ?_
      refine then_n ?_
      refine wp_ret ?_
      refine then_r ?_
      refine ret_t hF rfl rfl ?_
      exact ⟨_, rfl, congrArg (Value.int .i64) (by unfold limF; rw [if_neg (by omega)]), (hS.sub [] (by decide) (by first | rfl | simp) (by simp))⟩
    · first | (replace hc95 := of_decide_eq_false hc95) | (replace hc95 := of_decide_eq_true (bnot_f hc95)) | (subst hc95) | (replace hc95 := bnot_f hc95; subst hc95) | (replace hc95 := bnot_f hc95) | skip
      refine seq_yl hF (wn_t hF rfl rfl rfl rfl) rfl rfl (yl_move hF rfl rfl) ?_
      clear hF; intro a hF
      refine seq_yl hF (wn_t hF rfl rfl rfl rfl) rfl rfl (yl_bin hF rfl rfl rfl rfl (fun _ => run_lss)) ?_
      clear hF; intro a hF
      refine seq_yl hF (wn_none rfl) rfl rfl (yl_pick (u := _) (v := undef) hF rfl rfl (fun h => by cases h) (fun _ => rfl)) ?_
      clear hF; intro a hF
      refine seq_yl hF (wn_none rfl) rfl rfl (yl_move hF rfl rfl) ?_
      clear hF; intro a hF
      refine fr_split hF (fun hc96 hF => ?_) (fun hc96 hF => ?_)
      · first | (replace hc96 := of_decide_eq_true hc96) | (replace hc96 := of_decide_eq_false (bnot_t hc96)) | (subst hc96) | (replace hc96 := bnot_t hc96; subst hc96) | (replace hc96 := bnot_t hc96) | skip
        refine seq_skip hF (wn_f hF rfl rfl rfl rfl) rfl rfl ?_
        clear hF; intro a hF
        refine seq_skip hF (wn_f hF rfl rfl rfl rfl) rfl rfl ?_
        clear hF; intro a hF
        refine seq_yl hF (wn_none rfl) rfl rfl (yl_pick (u := _) (v := undef) hF rfl rfl (fun _ => rfl) (fun h => by cases h)) ?_
        clear hF; intro a hF
        refine wpList_nil ?_
        refine then_n ?_
        refine c_cond_t hF rfl ?_
        refine c_seq ?_
        refine c_region ?_
        refine seq_yl hF (wn_none rfl) rfl rfl (yl_assign hF rfl rfl) ?_
        clear hF; intro a hF
        refine wpList_nil ?_
        refine then_n ?_
        refine wp_ret ?_
        refine then_r ?_
        refine ret_t hF rfl rfl ?_
        exact ⟨_, rfl, congrArg (Value.int .i64) (by unfold limF; rw [if_neg (by omega)]), (hS.sub [] (by decide) (by first | rfl | simp) (by simp))⟩
      · first | (replace hc96 := of_decide_eq_false hc96) | (replace hc96 := of_decide_eq_true (bnot_f hc96)) | (subst hc96) | (replace hc96 := bnot_f hc96; subst hc96) | (replace hc96 := bnot_f hc96) | skip
        refine seq_yl hF (wn_t hF rfl rfl rfl rfl) rfl rfl (yl_move hF rfl rfl) ?_
        clear hF; intro a hF
        refine seq_yl hF (wn_t hF rfl rfl rfl rfl) rfl rfl (yl_bin hF rfl rfl rfl rfl (fun _ => run_gtr)) ?_
        clear hF; intro a hF
        refine seq_yl hF (wn_none rfl) rfl rfl (yl_pick (u := _) (v := undef) hF rfl rfl (fun h => by cases h) (fun _ => rfl)) ?_
        clear hF; intro a hF
        refine wpList_nil ?_
        refine then_n ?_
        refine c_cond hF rfl (fun hc97 => ?_) (fun hc97 => ?_)
        · first | (replace hc97 := of_decide_eq_true hc97) | (replace hc97 := of_decide_eq_false (bnot_t hc97)) | (subst hc97) | (replace hc97 := bnot_t hc97; subst hc97) | (replace hc97 := bnot_t hc97) | skip
          refine c_seq ?_
          refine c_region ?_
          refine seq_yl hF (wn_none rfl) rfl rfl (yl_assign hF rfl rfl) ?_
          clear hF; intro a hF
          refine wpList_nil ?_
          refine then_n ?_
          refine wp_ret ?_
          refine then_r ?_
          refine ret_t hF rfl rfl ?_
          exact ⟨_, rfl, congrArg (Value.int .i64) (by unfold limF; rw [if_neg (by omega)]), (hS.sub [] (by decide) (by first | rfl | simp) (by simp))⟩
        · first | (replace hc97 := of_decide_eq_false hc97) | (replace hc97 := of_decide_eq_true (bnot_f hc97)) | (subst hc97) | (replace hc97 := bnot_f hc97; subst hc97) | (replace hc97 := bnot_f hc97) | skip
          refine wp_skip ?_
          refine then_n ?_
          refine c_seq ?_
          refine c_region ?_
          refine seq_yl hF (wn_none rfl) rfl rfl (yl_move hF rfl rfl) ?_
          clear hF; intro a hF
          refine seq_yl hF (wn_none rfl) rfl rfl (yl_move hF rfl rfl) ?_
          clear hF; intro a hF
          refine seq_yl hF (wn_none rfl) rfl rfl (yl_move hF rfl rfl) ?_
          clear hF; intro a hF
          refine seq_yl hF (wn_none rfl) rfl rfl (yl_bin hF rfl rfl rfl rfl (fun _ => run_mul (lim_q (by omega)).2.2.1)) ?_
          clear hF; intro a hF
          refine seq_yl hF (wn_none rfl) rfl rfl (yl_bin hF rfl rfl rfl rfl (fun _ => run_quoN (lim_q (by omega)).2.2.2.1 (by omega) (by have := (lim_q (a := x1) (b := x2) (by omega)).2.2.2.2; omega))) ?_
          clear hF; intro a hF
          refine seq_yl hF (wn_none rfl) rfl rfl (yl_max2 hF rfl rfl rfl) ?_
          clear hF; intro a hF
          refine seq_yl hF (wn_none rfl) rfl rfl (yl_min2 hF rfl rfl rfl) ?_
          clear hF; intro a hF
          refine seq_yl hF (wn_none rfl) rfl rfl (yl_assign hF rfl rfl) ?_
          clear hF; intro a hF
          refine wpList_nil ?_
          refine then_n ?_
          refine wp_ret ?_
          refine ret_t hF rfl rfl ?_
          exact ⟨_, rfl, congrArg (Value.int .i64) (by have := lim_q (a := x1) (b := x2) (by omega); unfold limF; rw [if_pos (by omega)] <;> first | rfl | omega), (hS.sub [] (by decide) (by first | rfl | simp) (by simp))⟩

theorem limit2_any (x1 x2 : Int) (w0 : World) :
    Fn Try.prog 17 #[.int .i64 x1, .int .i64 x2] w0 (fun v w' => v = .int .i64 (limF x1 x2) ∧ Sat w0 w' []) := by
  refine c_enter (N := 24) (l := [_, _]) Try.func17 rfl rfl (fun a w hF hS => ?_)
  refine c_seq ?_
  refine c_region ?_
  refine seq_yl hF (wn_none rfl) rfl rfl (yl_assign hF rfl rfl) ?_
  clear hF; intro a hF
  refine wpList_nil ?_
  refine then_n ?_
  refine c_seq ?_
  refine c_seq ?_
  refine c_region ?_
  refine seq_yl hF (wn_none rfl) rfl rfl (yl_move hF rfl rfl) ?_
  clear hF; intro a hF
  refine seq_yl hF (wn_none rfl) rfl rfl (yl_bin hF rfl rfl rfl rfl (fun _ => run_lss)) ?_
  clear hF; intro a hF
  refine seq_yl hF (wn_none rfl) rfl rfl (yl_move hF rfl rfl) ?_
  clear hF; intro a hF
  refine fr_split hF (fun hc98 hF => ?_) (fun hc98 hF => ?_)
  · first | (replace hc98 := of_decide_eq_true hc98) | (replace hc98 := of_decide_eq_false (bnot_t hc98)) | (subst hc98) | (replace hc98 := bnot_t hc98; subst hc98) | (replace hc98 := bnot_t hc98) | skip
    refine seq_skip hF (wn_f hF rfl rfl rfl rfl) rfl rfl ?_
    clear hF; intro a hF
    refine seq_skip hF (wn_f hF rfl rfl rfl rfl) rfl rfl ?_
    clear hF; intro a hF
    refine seq_yl hF (wn_none rfl) rfl rfl (yl_pick (u := _) (v := undef) hF rfl rfl (fun _ => rfl) (fun h => by cases h)) ?_
    clear hF; intro a hF
    refine seq_yl hF (wn_none rfl) rfl rfl (yl_move hF rfl rfl) ?_
    clear hF; intro a hF
    refine seq_skip hF (wn_f hF rfl rfl rfl rfl) rfl rfl ?_
    clear hF; intro a hF
    refine seq_skip hF (wn_f hF rfl rfl rfl rfl) rfl rfl ?_
    clear hF; intro a hF
    refine seq_yl hF (wn_none rfl) rfl rfl (yl_pick (u := _) (v := undef) hF rfl rfl (fun _ => rfl) (fun h => by cases h)) ?_
    clear hF; intro a hF
    refine seq_yl hF (wn_none rfl) rfl rfl (yl_move hF rfl rfl) ?_
    clear hF; intro a hF
    refine seq_skip hF (wn_f hF rfl rfl rfl rfl) rfl rfl ?_
    clear hF; intro a hF
    refine seq_skip hF (wn_f hF rfl rfl rfl rfl) rfl rfl ?_
    clear hF; intro a hF
    refine seq_yl hF (wn_none rfl) rfl rfl (yl_pick (u := _) (v := undef) hF rfl rfl (fun _ => rfl) (fun h => by cases h)) ?_
    clear hF; intro a hF
    refine wpList_nil ?_
    refine then_n ?_
    refine c_cond_t hF rfl ?_
    refine c_seq ?_
    refine c_region ?_
    refine seq_yl hF (wn_none rfl) rfl rfl (yl_assign hF rfl rfl) ?_
    clear hF; intro a hF
    refine wpList_nil ?_
    refine then_n ?_
    refine wp_ret ?_
    refine then_r ?_
    refine ret_t hF rfl rfl ?_
    exact ⟨_, rfl, congrArg (Value.int .i64) (by unfold limF; rw [if_neg (by omega)]), (hS.sub [] (by decide) (by first | rfl | simp) (by simp))⟩
  · first | (replace hc98 := of_decide_eq_false hc98) | (replace hc98 := of_decide_eq_true (bnot_f hc98)) | (subst hc98) | (replace hc98 := bnot_f hc98; subst hc98) | (replace hc98 := bnot_f hc98) | skip
    refine seq_yl hF (wn_t hF rfl rfl rfl rfl) rfl rfl (yl_move hF rfl rfl) ?_
    clear hF; intro a hF
    refine seq_yl hF (wn_t hF rfl rfl rfl rfl) rfl rfl (yl_bin hF rfl rfl rfl rfl (fun _ => run_gtr)) ?_
    clear hF; intro a hF
    refine seq_yl hF (wn_none rfl) rfl rfl (yl_pick (u := _) (v := undef) hF rfl rfl (fun h => by cases h) (fun _ => rfl)) ?_
    clear hF; intro a hF
    refine seq_yl hF (wn_none rfl) rfl rfl (yl_move hF rfl rfl) ?_
    clear hF; intro a hF
    refine fr_split hF (fun hc99 hF => ?_) (fun hc99 hF => ?_)
    · first | (replace hc99 := of_decide_eq_true hc99) | (replace hc99 := of_decide_eq_false (bnot_t hc99)) | (subst hc99) | (replace hc99 := bnot_t hc99; subst hc99) | (replace hc99 := bnot_t hc99) | skip
      refine seq_skip hF (wn_f hF rfl rfl rfl rfl) rfl rfl ?_
      clear hF; intro a hF
      refine seq_skip hF (wn_f hF rfl rfl rfl rfl) rfl rfl ?_
      clear hF; intro a hF
      refine seq_yl hF (wn_none rfl) rfl rfl (yl_pick (u := _) (v := undef) hF rfl rfl (fun _ => rfl) (fun h => by cases h)) ?_
      clear hF; intro a hF
      refine seq_yl hF (wn_none rfl) rfl rfl (yl_move hF rfl rfl) ?_
      clear hF; intro a hF
      refine seq_skip hF (wn_f hF rfl rfl rfl rfl) rfl rfl ?_
      clear hF; intro a hF
      refine seq_skip hF (wn_f hF rfl rfl rfl rfl) rfl rfl ?_
      clear hF; intro a hF
      refine seq_yl hF (wn_none rfl) rfl rfl (yl_pick (u := _) (v := undef) hF rfl rfl (fun _ => rfl) (fun h => by cases h)) ?_
      clear hF; intro a hF
      refine wpList_nil ?_
      refine then_n ?_
      refine c_cond_t hF rfl ?_
      refine c_seq ?_
      refine c_region ?_
      refine seq_yl hF (wn_none rfl) rfl rfl (yl_assign hF rfl rfl) ?_
      clear hF; intro a hF
      refine wpList_nil ?_
      refine then_n ?_
      refine wp_ret ?_
      refine then_r ?_
      refine ret_t hF rfl rfl ?_
      exact ⟨_, rfl, congrArg (Value.int .i64) (by unfold limF; rw [if_neg (by omega)]), (hS.sub [] (by decide) (by first | rfl | simp) (by simp))⟩
    · first | (replace hc99 := of_decide_eq_false hc99) | (replace hc99 := of_decide_eq_true (bnot_f hc99)) | (subst hc99) | (replace hc99 := bnot_f hc99; subst hc99) | (replace hc99 := bnot_f hc99) | skip
      refine seq_yl hF (wn_t hF rfl rfl rfl rfl) rfl rfl (yl_move hF rfl rfl) ?_
      clear hF; intro a hF
      refine seq_yl hF (wn_t hF rfl rfl rfl rfl) rfl rfl (yl_bin hF rfl rfl rfl rfl (fun _ => run_lss)) ?_
      clear hF; intro a hF
      refine seq_yl hF (wn_none rfl) rfl rfl (yl_pick (u := _) (v := undef) hF rfl rfl (fun h => by cases h) (fun _ => rfl)) ?_
      clear hF; intro a hF
      refine seq_yl hF (wn_none rfl) rfl rfl (yl_move hF rfl rfl) ?_
      clear hF; intro a hF
      refine fr_split hF (fun hc100 hF => ?_) (fun hc100 hF => ?_)
      · first | (replace hc100 := of_decide_eq_true hc100) | (replace hc100 := of_decide_eq_false (bnot_t hc100)) | (subst hc100) | (replace hc100 := bnot_t hc100; subst hc100) | (replace hc100 := bnot_t hc100) | skip
        refine seq_skip hF (wn_f hF rfl rfl rfl rfl) rfl rfl ?_
        clear hF; intro a hF
        refine seq_skip hF (wn_f hF rfl rfl rfl rfl) rfl rfl ?_
        clear hF; intro a hF
        refine seq_yl hF (wn_none rfl) rfl rfl (yl_pick (u := _) (v := undef) hF rfl rfl (fun _ => rfl) (fun h => by cases h)) ?_
        clear hF; intro a hF
        refine wpList_nil ?_
        refine then_n ?_
        refine c_cond_t hF rfl ?_
        refine c_seq ?_
        refine c_region ?_
        refine seq_yl hF (wn_none rfl) rfl rfl (yl_assign hF rfl rfl) ?_
        clear hF; intro a hF
        refine wpList_nil ?_
        refine then_n ?_
        refine wp_ret ?_
        refine then_r ?_
        refine ret_t hF rfl rfl ?_
        exact ⟨_, rfl, congrArg (Value.int .i64) (by unfold limF; rw [if_neg (by omega)]), (hS.sub [] (by decide) (by first | rfl | simp) (by simp))⟩
      · first | (replace hc100 := of_decide_eq_false hc100) | (replace hc100 := of_decide_eq_true (bnot_f hc100)) | (subst hc100) | (replace hc100 := bnot_f hc100; subst hc100) | (replace hc100 := bnot_f hc100) | skip
        refine seq_yl hF (wn_t hF rfl rfl rfl rfl) rfl rfl (yl_move hF rfl rfl) ?_
        clear hF; intro a hF
        refine seq_yl hF (wn_t hF rfl rfl rfl rfl) rfl rfl (yl_bin hF rfl rfl rfl rfl (fun _ => run_gtr)) ?_
        clear hF; intro a hF
        refine seq_yl hF (wn_none rfl) rfl rfl (yl_pick (u := _) (v := undef) hF rfl rfl (fun h => by cases h) (fun _ => rfl)) ?_
        clear hF; intro a hF
        refine wpList_nil ?_
        refine then_n ?_
        refine c_cond hF rfl (fun hc101 => ?_) (fun hc101 => ?_)
        · first | (replace hc101 := of_decide_eq_true hc101) | (replace hc101 := of_decide_eq_false (bnot_t hc101)) | (subst hc101) | (replace hc101 := bnot_t hc101; subst hc101) | (replace hc101 := bnot_t hc101) | skip
          refine c_seq ?_
          refine c_region ?_
          refine seq_yl hF (wn_none rfl) rfl rfl (yl_assign hF rfl rfl) ?_
          clear hF; intro a hF
          refine wpList_nil ?_
          refine then_n ?_
          refine wp_ret ?_
          refine then_r ?_
          refine ret_t hF rfl rfl ?_
          exact ⟨_, rfl, congrArg (Value.int .i64) (by unfold limF; rw [if_neg (by omega)]), (hS.sub [] (by decide) (by first | rfl | simp) (by simp))⟩
        · first | (replace hc101 := of_decide_eq_false hc101) | (replace hc101 := of_decide_eq_true (bnot_f hc101)) | (subst hc101) | (replace hc101 := bnot_f hc101; subst hc101) | (replace hc101 := bnot_f hc101) | skip
          refine wp_skip ?_
          refine then_n ?_
          refine c_seq ?_
          refine c_region ?_
          refine seq_yl hF (wn_none rfl) rfl rfl (yl_move hF rfl rfl) ?_
          clear hF; intro a hF
          refine seq_yl hF (wn_none rfl) rfl rfl (yl_move hF rfl rfl) ?_
          clear hF; intro a hF
          refine seq_yl hF (wn_none rfl) rfl rfl (yl_bin hF rfl rfl rfl rfl (fun _ => run_mul (lim_q (by omega)).2.2.1)) ?_
          clear hF; intro a hF
          refine seq_yl hF (wn_none rfl) rfl rfl (yl_bin hF rfl rfl rfl rfl (fun _ => run_quoN (lim_q (by omega)).2.2.2.1 (by omega) (by have := (lim_q (a := x1) (b := x2) (by omega)).2.2.2.2; omega))) ?_
          clear hF; intro a hF
          refine seq_yl hF (wn_none rfl) rfl rfl (yl_max2 hF rfl rfl rfl) ?_
          clear hF; intro a hF
          refine seq_yl hF (wn_none rfl) rfl rfl (yl_assign hF rfl rfl) ?_
          clear hF; intro a hF
          refine wpList_nil ?_
          refine then_n ?_
          refine wp_ret ?_
          refine ret_t hF rfl rfl ?_
          exact ⟨_, rfl, congrArg (Value.int .i64) (by have := lim_q (a := x1) (b := x2) (by omega); unfold limF; rw [if_pos (by omega)] <;> first | rfl | omega), (hS.sub [] (by decide) (by first | rfl | simp) (by simp))⟩

theorem back_any (x1 : Int) (w0 : World) (ha : i64 x1) :
    Fn Try.prog 18 #[.int .i64 x1] w0 (fun v w' => v = .int .i64 (max 0 x1 / 2) ∧ Sat w0 w' []) := by
  obtain ⟨ha1, ha2⟩ := ha
  refine c_enter (N := 6) (l := [_]) Try.func18 rfl rfl (fun a w hF hS => ?_)
  refine c_seq ?_
  refine c_region ?_
  refine seq_yl hF (wn_none rfl) rfl rfl (yl_assign hF rfl rfl) ?_
  clear hF; intro a hF
  refine wpList_nil ?_
  refine then_n ?_
  refine c_seq ?_
  refine c_region ?_
  refine seq_yl hF (wn_none rfl) rfl rfl (yl_move hF rfl rfl) ?_
  clear hF; intro a hF
  refine seq_yl hF (wn_none rfl) rfl rfl (yl_max2 hF rfl rfl rfl) ?_
  clear hF; intro a hF
  refine seq_yl hF (wn_none rfl) rfl rfl (yl_bin hF rfl rfl rfl rfl (fun _ => run_quoN (by omega) (by omega) (by omega))) ?_
  clear hF; intro a hF
  refine seq_yl hF (wn_none rfl) rfl rfl (yl_assign hF rfl rfl) ?_
  clear hF; intro a hF
  refine wpList_nil ?_
  refine then_n ?_
  refine wp_ret ?_
  refine ret_t hF rfl rfl ?_
  exact ⟨_, rfl, congrArg (Value.int .i64) (by first | rfl | (rw [Int.max_comm])), (hS.sub [] (by decide) (by first | rfl | simp) (by simp))⟩

theorem back2_any (x1 : Int) (w0 : World) (ha : i64 x1) :
    Fn Try.prog 19 #[.int .i64 x1] w0 (fun v w' => v = .int .i64 (max 0 x1 / 2) ∧ Sat w0 w' []) := by
  obtain ⟨ha1, ha2⟩ := ha
  refine c_enter (N := 6) (l := [_]) Try.func19 rfl rfl (fun a w hF hS => ?_)
  refine c_seq ?_
  refine c_region ?_
  refine seq_yl hF (wn_none rfl) rfl rfl (yl_assign hF rfl rfl) ?_
  clear hF; intro a hF
  refine wpList_nil ?_
  refine then_n ?_
  refine c_seq ?_
  refine c_region ?_
  refine seq_yl hF (wn_none rfl) rfl rfl (yl_move hF rfl rfl) ?_
  clear hF; intro a hF
  refine seq_yl hF (wn_none rfl) rfl rfl (yl_max2 hF rfl rfl rfl) ?_
  clear hF; intro a hF
  refine seq_yl hF (wn_none rfl) rfl rfl (yl_bin hF rfl rfl rfl rfl (fun _ => run_quoN (by omega) (by omega) (by omega))) ?_
  clear hF; intro a hF
  refine seq_yl hF (wn_none rfl) rfl rfl (yl_assign hF rfl rfl) ?_
  clear hF; intro a hF
  refine wpList_nil ?_
  refine then_n ?_
  refine wp_ret ?_
  refine ret_t hF rfl rfl ?_
  exact ⟨_, rfl, congrArg (Value.int .i64) (by first | rfl | (rw [Int.max_comm])), (hS.sub [] (by decide) (by first | rfl | simp) (by simp))⟩

theorem same_any (v u : Value) (L M : List Int) (p q p2 q2 : Int) (w0 : World) (hv : Rd w0 1 v (L).length (cells encI (L))) (hu : Rd w0 1 u (M).length (cells encI (M))) (hL : L.length ≤ 1000000) :
    Fn Try.prog 13 #[.agg #[v, .int .i64 p, .int .i64 q], .agg #[u, .int .i64 p2, .int .i64 q2]] w0 (fun v w' => v = .bool (decide (L = M ∧ p = p2 ∧ q = q2)) ∧ Sat w0 w' []) := by
  obtain ⟨Av, cv, rfl⟩ := Rd.form hv
  obtain ⟨Au, cu, rfl⟩ := Rd.form hu
  refine c_enter (N := 45) (l := [_, _]) Try.func13 rfl rfl (fun a w hF hS => ?_)
  replace hS := hS.addRo hu
  replace hS := hS.addRo hv
  refine c_seq ?_
  refine c_region ?_
  refine seq_wp (wn_none rfl) (wp_box (cs := #[_, _, _]) hF hS rfl rfl rfl rfl rfl ?_)
  clear hF hS; intro a w g102 hF hS
  refine seq_wp (wn_none rfl) (wp_box (cs := #[_, _, _]) hF hS rfl rfl rfl rfl rfl ?_)
  clear hF hS; intro a w g103 hF hS
  refine seq_yl hF (wn_none rfl) rfl rfl (yl_assign hF rfl rfl) ?_
  clear hF; intro a hF
  refine wpList_nil ?_
  refine then_n ?_
  refine c_seq ?_
  refine c_seq ?_
  refine c_region ?_
  refine seq_yl hF (wn_none rfl) rfl rfl (yl_fieldAddr hF rfl rfl (fun w => by kernel_rfl : ∀ w, (Instr.fieldAt 27 (.pointer (some ⟨g102, 0, none⟩)) 1).run Try.prog w = .ok (.pointer (some ⟨g102, 1, none⟩)) w)) ?_
  clear hF; intro a hF
  refine seq_yl hF (wn_none rfl) rfl rfl (yl_load (fun _ h => h ▸ hS) hF rfl rfl 1 rfl ag3 rfl) ?_
  clear hF; intro a hF
  refine seq_yl hF (wn_none rfl) rfl rfl (yl_fieldAddr hF rfl rfl (fun w => by kernel_rfl : ∀ w, (Instr.fieldAt 27 (.pointer (some ⟨g103, 0, none⟩)) 1).run Try.prog w = .ok (.pointer (some ⟨g103, 1, none⟩)) w)) ?_
  clear hF; intro a hF
  refine seq_yl hF (wn_none rfl) rfl rfl (yl_load (fun _ h => h ▸ hS) hF rfl rfl 0 rfl ag3 rfl) ?_
  clear hF; intro a hF
  refine seq_yl hF (wn_none rfl) rfl rfl (yl_bin hF rfl rfl rfl rfl (fun _ => run_neq)) ?_
  clear hF; intro a hF
  refine seq_yl hF (wn_none rfl) rfl rfl (yl_move hF rfl rfl) ?_
  clear hF; intro a hF
  refine fr_split hF (fun hc104 hF => ?_) (fun hc104 hF => ?_)
  · first | (replace hc104 := of_decide_eq_true hc104) | (replace hc104 := of_decide_eq_false (bnot_t hc104)) | (subst hc104) | (replace hc104 := bnot_t hc104; subst hc104) | (replace hc104 := bnot_t hc104) | skip
    refine seq_skip hF (wn_f hF rfl rfl rfl rfl) rfl rfl ?_
    clear hF; intro a hF
    refine seq_skip hF (wn_f hF rfl rfl rfl rfl) rfl rfl ?_
    clear hF; intro a hF
    refine seq_skip hF (wn_f hF rfl rfl rfl rfl) rfl rfl ?_
    clear hF; intro a hF
    refine seq_skip hF (wn_f hF rfl rfl rfl rfl) rfl rfl ?_
    clear hF; intro a hF
    refine seq_skip hF (wn_f hF rfl rfl rfl rfl) rfl rfl ?_
    clear hF; intro a hF
    refine seq_yl hF (wn_none rfl) rfl rfl (yl_pick (u := _) (v := undef) hF rfl rfl (fun _ => rfl) (fun h => by cases h)) ?_
    clear hF; intro a hF
    refine seq_yl hF (wn_none rfl) rfl rfl (yl_move hF rfl rfl) ?_
    clear hF; intro a hF
    refine seq_skip hF (wn_f hF rfl rfl rfl rfl) rfl rfl ?_
    clear hF; intro a hF
    refine seq_skip hF (wn_f hF rfl rfl rfl rfl) rfl rfl ?_
    clear hF; intro a hF
    refine seq_skip hF (wn_f hF rfl rfl rfl rfl) rfl rfl ?_
    clear hF; intro a hF
    refine seq_skip hF (wn_f hF rfl rfl rfl rfl) rfl rfl ?_
    clear hF; intro a hF
    refine seq_skip hF (wn_f hF rfl rfl rfl rfl) rfl rfl ?_
    clear hF; intro a hF
    refine seq_skip hF (wn_f hF rfl rfl rfl rfl) rfl rfl ?_
    clear hF; intro a hF
    refine seq_skip hF (wn_f hF rfl rfl rfl rfl) rfl rfl ?_
    clear hF; intro a hF
    refine seq_yl hF (wn_none rfl) rfl rfl (yl_pick (u := _) (v := undef) hF rfl rfl (fun _ => rfl) (fun h => by cases h)) ?_
    clear hF; intro a hF
    refine wpList_nil ?_
    refine then_n ?_
    refine c_cond_t hF rfl ?_
    refine c_seq ?_
    refine c_region ?_
    refine seq_yl hF (wn_none rfl) rfl rfl (yl_assign hF rfl rfl) ?_
    clear hF; intro a hF
    refine wpList_nil ?_
    refine then_n ?_
    refine wp_ret ?_
    refine then_r ?_
    refine ret_t hF rfl rfl ?_
    exact ⟨_, rfl, congrArg Value.bool (by symm; rw [decide_eq_false_iff_not]; rintro ⟨rfl, h8, h9⟩; omega), (hS.sub [] (by decide) (by first | rfl | simp) (by simp))⟩
  · first | (replace hc104 := of_decide_eq_false hc104) | (replace hc104 := of_decide_eq_true (bnot_f hc104)) | (subst hc104) | (replace hc104 := bnot_f hc104; subst hc104) | (replace hc104 := bnot_f hc104) | skip
    refine seq_yl hF (wn_t hF rfl rfl rfl rfl) rfl rfl (yl_fieldAddr hF rfl rfl (fun w => by kernel_rfl : ∀ w, (Instr.fieldAt 27 (.pointer (some ⟨g102, 0, none⟩)) 2).run Try.prog w = .ok (.pointer (some ⟨g102, 2, none⟩)) w)) ?_
    clear hF; intro a hF
    refine seq_yl hF (wn_t hF rfl rfl rfl rfl) rfl rfl (yl_load (fun _ h => h ▸ hS) hF rfl rfl 1 rfl ag3 rfl) ?_
    clear hF; intro a hF
    refine seq_yl hF (wn_t hF rfl rfl rfl rfl) rfl rfl (yl_fieldAddr hF rfl rfl (fun w => by kernel_rfl : ∀ w, (Instr.fieldAt 27 (.pointer (some ⟨g103, 0, none⟩)) 2).run Try.prog w = .ok (.pointer (some ⟨g103, 2, none⟩)) w)) ?_
    clear hF; intro a hF
    refine seq_yl hF (wn_t hF rfl rfl rfl rfl) rfl rfl (yl_load (fun _ h => h ▸ hS) hF rfl rfl 0 rfl ag3 rfl) ?_
    clear hF; intro a hF
    refine seq_yl hF (wn_t hF rfl rfl rfl rfl) rfl rfl (yl_bin hF rfl rfl rfl rfl (fun _ => run_neq)) ?_
    clear hF; intro a hF
    refine seq_yl hF (wn_none rfl) rfl rfl (yl_pick (u := _) (v := undef) hF rfl rfl (fun h => by cases h) (fun _ => rfl)) ?_
    clear hF; intro a hF
    refine seq_yl hF (wn_none rfl) rfl rfl (yl_move hF rfl rfl) ?_
    clear hF; intro a hF
    refine fr_split hF (fun hc105 hF => ?_) (fun hc105 hF => ?_)
    · first | (replace hc105 := of_decide_eq_true hc105) | (replace hc105 := of_decide_eq_false (bnot_t hc105)) | (subst hc105) | (replace hc105 := bnot_t hc105; subst hc105) | (replace hc105 := bnot_t hc105) | skip
      refine seq_skip hF (wn_f hF rfl rfl rfl rfl) rfl rfl ?_
      clear hF; intro a hF
      refine seq_skip hF (wn_f hF rfl rfl rfl rfl) rfl rfl ?_
      clear hF; intro a hF
      refine seq_skip hF (wn_f hF rfl rfl rfl rfl) rfl rfl ?_
      clear hF; intro a hF
      refine seq_skip hF (wn_f hF rfl rfl rfl rfl) rfl rfl ?_
      clear hF; intro a hF
      refine seq_skip hF (wn_f hF rfl rfl rfl rfl) rfl rfl ?_
      clear hF; intro a hF
      refine seq_skip hF (wn_f hF rfl rfl rfl rfl) rfl rfl ?_
      clear hF; intro a hF
      refine seq_skip hF (wn_f hF rfl rfl rfl rfl) rfl rfl ?_
      clear hF; intro a hF
      refine seq_yl hF (wn_none rfl) rfl rfl (yl_pick (u := _) (v := undef) hF rfl rfl (fun _ => rfl) (fun h => by cases h)) ?_
      clear hF; intro a hF
      refine wpList_nil ?_
      refine then_n ?_
      refine c_cond_t hF rfl ?_
      refine c_seq ?_
      refine c_region ?_
      refine seq_yl hF (wn_none rfl) rfl rfl (yl_assign hF rfl rfl) ?_
      clear hF; intro a hF
      refine wpList_nil ?_
      refine then_n ?_
      refine wp_ret ?_
      refine then_r ?_
      refine ret_t hF rfl rfl ?_
      exact ⟨_, rfl, congrArg Value.bool (by symm; rw [decide_eq_false_iff_not]; rintro ⟨rfl, h8, h9⟩; omega), (hS.sub [] (by decide) (by first | rfl | simp) (by simp))⟩
    · first | (replace hc105 := of_decide_eq_false hc105) | (replace hc105 := of_decide_eq_true (bnot_f hc105)) | (subst hc105) | (replace hc105 := bnot_f hc105; subst hc105) | (replace hc105 := bnot_f hc105) | skip
      refine seq_yl hF (wn_t hF rfl rfl rfl rfl) rfl rfl (yl_fieldAddr hF rfl rfl (fun w => by kernel_rfl : ∀ w, (Instr.fieldAt 27 (.pointer (some ⟨g102, 0, none⟩)) 0).run Try.prog w = .ok (.pointer (some ⟨g102, 0, none⟩)) w)) ?_
      clear hF; intro a hF
      refine seq_yl hF (wn_t hF rfl rfl rfl rfl) rfl rfl (yl_load (fun _ h => h ▸ hS) hF rfl rfl 1 rfl ag22 rfl) ?_
      clear hF; intro a hF
      refine seq_yl hF (wn_t hF rfl rfl rfl rfl) rfl rfl (yl_len hF rfl rfl (fun _ => run_lenRd sl22 (hS.rdRo 2 rfl))) ?_
      clear hF; intro a hF
      refine seq_yl hF (wn_t hF rfl rfl rfl rfl) rfl rfl (yl_fieldAddr hF rfl rfl (fun w => by kernel_rfl : ∀ w, (Instr.fieldAt 27 (.pointer (some ⟨g103, 0, none⟩)) 0).run Try.prog w = .ok (.pointer (some ⟨g103, 0, none⟩)) w)) ?_
      clear hF; intro a hF
      refine seq_yl hF (wn_t hF rfl rfl rfl rfl) rfl rfl (yl_load (fun _ h => h ▸ hS) hF rfl rfl 0 rfl ag22 rfl) ?_
      clear hF; intro a hF
      refine seq_yl hF (wn_t hF rfl rfl rfl rfl) rfl rfl (yl_len hF rfl rfl (fun _ => run_lenRd sl22 (hS.rdRo 3 rfl))) ?_
      clear hF; intro a hF
      refine seq_yl hF (wn_t hF rfl rfl rfl rfl) rfl rfl (yl_bin hF rfl rfl rfl rfl (fun _ => run_neq)) ?_
      clear hF; intro a hF
      refine seq_yl hF (wn_none rfl) rfl rfl (yl_pick (u := _) (v := undef) hF rfl rfl (fun h => by cases h) (fun _ => rfl)) ?_
      clear hF; intro a hF
      refine wpList_nil ?_
      refine then_n ?_
      refine c_cond hF rfl (fun hc106 => ?_) (fun hc106 => ?_)
      · first | (replace hc106 := of_decide_eq_true hc106) | (replace hc106 := of_decide_eq_false (bnot_t hc106)) | (subst hc106) | (replace hc106 := bnot_t hc106; subst hc106) | (replace hc106 := bnot_t hc106) | skip
        refine c_seq ?_
        refine c_region ?_
        refine seq_yl hF (wn_none rfl) rfl rfl (yl_assign hF rfl rfl) ?_
        clear hF; intro a hF
        refine wpList_nil ?_
        refine then_n ?_
        refine wp_ret ?_
        refine then_r ?_
        refine ret_t hF rfl rfl ?_
        exact ⟨_, rfl, congrArg Value.bool (by symm; rw [decide_eq_false_iff_not]; rintro ⟨rfl, h8, h9⟩; omega), (hS.sub [] (by decide) (by first | rfl | simp) (by simp))⟩
      · first | (replace hc106 := of_decide_eq_false hc106) | (replace hc106 := of_decide_eq_true (bnot_f hc106)) | (subst hc106) | (replace hc106 := bnot_f hc106; subst hc106) | (replace hc106 := bnot_f hc106) | skip
        refine wp_skip ?_
        refine then_n ?_
        refine c_seq ?_
        refine c_seq ?_
        refine c_region ?_
        refine seq_yl hF (wn_none rfl) rfl rfl (yl_assign hF rfl rfl) ?_
        clear hF; intro a hF
        refine wpList_nil ?_
        refine then_n ?_
        refine wp_block ?_
        refine c_loop (fun m a w => ∃ (k : Nat), m = L.length - k ∧ (k ≤ L.length ∧ L.take k = M.take k) ∧ Fr 45 a [(2, .pointer (some ⟨g102, 0, none⟩)), (3, .pointer (some ⟨g103, 0, none⟩)), (5, .int .i64 ((k : Nat) : Int))] ∧ Sat w0 w (.ro 1 (.slice Av (L).length cv) (L).length (cells encI (L)) :: .ro 1 (.slice Au (M).length cu) (M).length (cells encI (M)) :: .box g102 27 #[.slice Av (L).length cv, .int .i64 (p), .int .i64 (q)] :: .box g103 27 #[.slice Au (M).length cu, .int .i64 (p2), .int .i64 (q2)] :: [])) (L.length - 0) ?_ ?_
        · exact ⟨0, rfl, ⟨Nat.zero_le _, by simp⟩, hF.to [2, 3, 5] rfl, (hS.sub [2, 3, 1, 0] (by decide) (by first | rfl | simp) (by simp))⟩
        · clear hF hS; try clear hSS
          clear a w; rintro m a w ⟨k, rfl, hinv, hF, hS⟩
          have hk := hinv.1
          refine c_seq ?_
          refine c_seq ?_
          refine c_region ?_
          refine seq_yl hF (wn_none rfl) rfl rfl (yl_move hF rfl rfl) ?_
          clear hF; intro a hF
          refine seq_yl hF (wn_none rfl) rfl rfl (yl_fieldAddr hF rfl rfl (fun w => by kernel_rfl : ∀ w, (Instr.fieldAt 27 (.pointer (some ⟨g102, 0, none⟩)) 0).run Try.prog w = .ok (.pointer (some ⟨g102, 0, none⟩)) w)) ?_
          clear hF; intro a hF
          refine seq_yl hF (wn_none rfl) rfl rfl (yl_load (fun _ h => h ▸ hS) hF rfl rfl 2 rfl ag22 rfl) ?_
          clear hF; intro a hF
          refine seq_yl hF (wn_none rfl) rfl rfl (yl_len hF rfl rfl (fun _ => run_lenRd sl22 (hS.rdRo 0 rfl))) ?_
          clear hF; intro a hF
          refine seq_yl hF (wn_none rfl) rfl rfl (yl_bin hF rfl rfl rfl rfl (fun _ => run_lss)) ?_
          clear hF; intro a hF
          refine wpList_nil ?_
          refine then_n ?_
          refine c_cond hF rfl (fun hc107 => ?_) (fun hc107 => ?_)
          · first | (replace hc107 := of_decide_eq_true hc107) | (replace hc107 := of_decide_eq_false (bnot_t hc107)) | (subst hc107) | (replace hc107 := bnot_t hc107; subst hc107) | (replace hc107 := bnot_t hc107) | skip
            refine wp_skip ?_
            refine then_n ?_
            refine c_seq ?_
            refine wp_block ?_
            refine c_seq ?_
            refine ha_startS hS [2, 0, 3, 1] 11 (by kernel_rfl) ?_; clear hS; intro w hS
            have hSS := hS.sub [2, 0, 3, 1] (by decide) rfl (by simp)
            refine ha_yl 0 hF rfl rfl rfl (by kernel_rfl) (by kernel_rfl) (by kernel_rfl) (by decide) (fun _ _ _ h => h) (wn_none rfl) (.inr hSS) (yl_fieldAddr hF rfl rfl (fun w => by kernel_rfl : ∀ w, (Instr.fieldAt 27 (.pointer (some ⟨g102, 0, none⟩)) 0).run Try.prog w = .ok (.pointer (some ⟨g102, 0, none⟩)) w)) ?_
            clear hF; intro a hF
            refine ha_yl 2 hF rfl rfl rfl (by kernel_rfl) (by kernel_rfl) (by kernel_rfl) (by decide) (fun _ _ _ h => h) (wn_none rfl) (.inr hSS) (yl_move hF rfl rfl) ?_
            clear hF; intro a hF
            refine ha_yl 5 hF rfl rfl rfl (by kernel_rfl) (by kernel_rfl) (by kernel_rfl) (by decide) (fun _ _ _ h => h) (wn_none rfl) (.inr hSS) (yl_fieldAddr hF rfl rfl (fun w => by kernel_rfl : ∀ w, (Instr.fieldAt 27 (.pointer (some ⟨g103, 0, none⟩)) 0).run Try.prog w = .ok (.pointer (some ⟨g103, 0, none⟩)) w)) ?_
            clear hF; intro a hF
            refine ha_yl 7 hF rfl rfl rfl (by kernel_rfl) (by kernel_rfl) (by kernel_rfl) (by decide) (fun _ _ _ h => h) (wn_none rfl) (.inr hSS) (yl_move hF rfl rfl) ?_
            clear hF; intro a hF
            refine ha_ld 1 hF rfl rfl rfl (by kernel_rfl) (by kernel_rfl) (by kernel_rfl) (by decide) (by kernel_rfl) (by kernel_rfl) (fun _ _ _ h => h) (wn_none rfl) hSS (yl_load (fun _ h => h) hF rfl rfl 0 rfl ag22 rfl) ?_
            clear hF; intro a hF
            have hlt_hx108 : k < (L).length := by first | omega | (simp; done) | (simp; omega)
            obtain ⟨ad109, rfl⟩ := rd_some (hS.rdRo 0 rfl) hlt_hx108
            obtain ⟨x108, hx108⟩ := get_some hlt_hx108
            refine ha_yl 3 hF rfl rfl rfl (by kernel_rfl) (by kernel_rfl) (by kernel_rfl) (by decide) (fun _ _ _ h => h) (wn_none rfl) (.inr hSS) (yl_indexAddr hF rfl rfl rfl (fun _ => run_idx' sl22 sz3 (hS.rdRo 0 rfl) hlt_hx108)) ?_
            clear hF; intro a hF
            refine ha_ld 4 hF rfl rfl rfl (by kernel_rfl) (by kernel_rfl) (by kernel_rfl) (by decide) (by kernel_rfl) (by kernel_rfl) (fun _ _ _ h => h) (wn_none rfl) hSS (yl_loadAt hF rfl rfl ag3 (fun _ h => rd_cell0 (Sat.rdRo h 1 rfl) encI_len hx108 rfl rfl)) ?_
            clear hF; intro a hF
            refine ha_ld 6 hF rfl rfl rfl (by kernel_rfl) (by kernel_rfl) (by kernel_rfl) (by decide) (by kernel_rfl) (by kernel_rfl) (fun _ _ _ h => h) (wn_none rfl) hSS (yl_load (fun _ h => h) hF rfl rfl 2 rfl ag22 rfl) ?_
            clear hF; intro a hF
            have hlt_hx110 : k < (M).length := by first | omega | (simp; done) | (simp; omega)
            obtain ⟨ad111, rfl⟩ := rd_some (hS.rdRo 1 rfl) hlt_hx110
            obtain ⟨x110, hx110⟩ := get_some hlt_hx110
            refine ha_yl 8 hF rfl rfl rfl (by kernel_rfl) (by kernel_rfl) (by kernel_rfl) (by decide) (fun _ _ _ h => h) (wn_none rfl) (.inr hSS) (yl_indexAddr hF rfl rfl rfl (fun _ => run_idx' sl22 sz3 (hS.rdRo 1 rfl) hlt_hx110)) ?_
            clear hF; intro a hF
            refine ha_ld 9 hF rfl rfl rfl (by kernel_rfl) (by kernel_rfl) (by kernel_rfl) (by decide) (by kernel_rfl) (by kernel_rfl) (fun _ _ _ h => h) (wn_none rfl) hSS (yl_loadAt hF rfl rfl ag3 (fun _ h => rd_cell0 (Sat.rdRo h 3 rfl) encI_len hx110 rfl rfl)) ?_
            clear hF; intro a hF
            refine ha_yl 10 hF rfl rfl rfl (by kernel_rfl) (by kernel_rfl) (by kernel_rfl) (by decide) (fun _ _ _ h => h) (wn_none rfl) (.inr hSS) (yl_bin hF rfl rfl rfl rfl (fun _ => run_neq)) ?_
            clear hF; intro a hF
            refine ha_done (by kernel_rfl) ?_ _
            refine then_n ?_
            refine c_cond hF rfl (fun hc112 => ?_) (fun hc112 => ?_)
            · first | (replace hc112 := of_decide_eq_true hc112) | (replace hc112 := of_decide_eq_false (bnot_t hc112)) | (subst hc112) | (replace hc112 := bnot_t hc112; subst hc112) | (replace hc112 := bnot_t hc112) | skip
              refine c_seq ?_
              refine c_region ?_
              refine seq_yl hF (wn_none rfl) rfl rfl (yl_assign hF rfl rfl) ?_
              clear hF; intro a hF
              refine wpList_nil ?_
              refine then_n ?_
              refine wp_ret ?_
              refine inb_r ?_
              refine then_r ?_
              refine then_r ?_
              refine inb_r ?_
              refine then_r ?_
              refine ret_t hF rfl rfl ?_
              exact ⟨_, rfl, congrArg Value.bool (by symm; rw [decide_eq_false_iff_not]; rintro ⟨rfl, -, -⟩; have h9 := hx108; rw [hx110] at h9; injection h9 with h9; omega), (hS.sub [] (by decide) (by first | rfl | simp) (by simp))⟩
            · first | (replace hc112 := of_decide_eq_false hc112) | (replace hc112 := of_decide_eq_true (bnot_f hc112)) | (subst hc112) | (replace hc112 := bnot_f hc112; subst hc112) | (replace hc112 := bnot_f hc112) | skip
              refine wp_skip ?_
              refine inb_n ?_
              refine then_n ?_
              refine c_region ?_
              refine seq_yl hF (wn_none rfl) rfl rfl (yl_move hF rfl rfl) ?_
              clear hF; intro a hF
              refine seq_yl hF (wn_none rfl) rfl rfl (yl_bin hF rfl rfl rfl rfl (fun _ => run_inc (by omega))) ?_
              clear hF; intro a hF
              refine seq_yl hF (wn_none rfl) rfl rfl (yl_assign hF rfl rfl) ?_
              clear hF; intro a hF
              refine wpList_nil ?_
              refine then_n ?_
              exact ⟨_, (by omega), k + 1, rfl, ⟨by omega, take_eq hx108 hx110 (by omega) hinv.2⟩, hF.to [2, 3, 5] rfl, (hS.sub [0, 1, 2, 3] (by decide) (by first | rfl | simp) (by simp))⟩
          · first | (replace hc107 := of_decide_eq_false hc107) | (replace hc107 := of_decide_eq_true (bnot_f hc107)) | (subst hc107) | (replace hc107 := bnot_f hc107; subst hc107) | (replace hc107 := bnot_f hc107) | skip
            refine wp_exit ?_
            refine then_x ?_
            refine then_x ?_
            refine inb_x ?_
            refine then_n ?_
            refine c_seq ?_
            refine c_region ?_
            refine seq_yl hF (wn_none rfl) rfl rfl (yl_assign hF rfl rfl) ?_
            clear hF; intro a hF
            refine wpList_nil ?_
            refine then_n ?_
            refine wp_ret ?_
            refine ret_t hF rfl rfl ?_
            exact ⟨_, rfl, congrArg Value.bool (by symm; rw [decide_eq_true_eq]; have h9 := hinv.2; rw [List.take_of_length_le (by omega), List.take_of_length_le (by omega)] at h9; exact ⟨h9, by omega, by omega⟩), (hS.sub [] (by decide) (by first | rfl | simp) (by simp))⟩

end Go.Proofs.Ytllcklmbbkafgaa

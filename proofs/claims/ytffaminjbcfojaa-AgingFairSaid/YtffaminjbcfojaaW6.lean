/- walks, printed by wip/gen -/
import Derived.Test.YtffaminjbcfojaaW5
namespace Go.Proofs.Ytffaminjbcfojaa
open Go.RowKit
set_option linter.unusedVariables false
set_option linter.unusedSimpArgs false

set_option maxHeartbeats 1000000 in
set_option maxRecDepth 100000 in
theorem expired_any (v : Value) (L : List E44) (t u : Int) (w0 : World) (hv : Rd w0 2 v (L).length (cells enc44 (L))) (hL : L.length ≤ 1000000) :
    Fn Try.prog 15 #[v, .int .i64 t, .int .i64 u] w0 (fun v w' => ∃ (v1 : Value) (M : List Int), v = v1 ∧ expF L t u = M ∧ M.length ≤ 1000000 ∧ Sat w0 w' [.row 3 1 v1 (M).length (cells encI (M))]) := by
  obtain ⟨Av, cv, rfl⟩ := Rd.form hv
  refine c_enter (N := 43) (l := [_, _, _]) Try.func15 rfl rfl (fun a w hF hS => ?_)
  replace hS := hS.addRo hv
  refine c_seq ?_
  refine c_region ?_
  refine seq_yl hF (wn_none rfl) rfl rfl (yl_assign hF rfl rfl) ?_
  clear hF; intro a hF
  refine wpList_nil ?_
  refine then_n ?_
  refine c_scope ?_
  refine c_seq ?_
  refine c_seq ?_
  refine c_region ?_
  refine seq_yl hF (wn_none rfl) rfl rfl (yl_move hF rfl rfl) ?_
  clear hF; intro a hF
  refine seq_wp (wn_none rfl) (wp_call (vs := [_]) hF rfl rfl rfl rfl cf19 (check1 _ L  _ (hS.rdRo 0 rfl) (by first | omega | (simp; done) | (simp; omega))) ?_)
  clear hF; rintro _ w ⟨rfl, hS1⟩ a hF
  replace hS := hS.callB hS1 rfl; clear hS1
  refine seq_yl hF (wn_none rfl) rfl rfl (yl_un hF rfl rfl (fun _ => run_not)) ?_
  clear hF; intro a hF
  refine seq_yl hF (wn_none rfl) rfl rfl (yl_move hF rfl rfl) ?_
  clear hF; intro a hF
  refine fr_split hF (fun hc105 hF => ?_) (fun hc105 hF => ?_)
  · first | (replace hc105 := of_decide_eq_true hc105) | (replace hc105 := of_decide_eq_false (bnot_t hc105)) | (subst hc105) | (replace hc105 := bnot_t hc105; subst hc105) | (replace hc105 := bnot_t hc105) | skip
    refine seq_skip hF (wn_f hF rfl rfl rfl rfl) rfl rfl ?_
    clear hF; intro a hF
    refine seq_skip hF (wn_f hF rfl rfl rfl rfl) rfl rfl ?_
    clear hF; intro a hF
    refine seq_skip hF (wn_f hF rfl rfl rfl rfl) rfl rfl ?_
    clear hF; intro a hF
    refine seq_yl hF (wn_none rfl) rfl rfl (yl_pick (u := _) (v := undef) hF rfl rfl (fun _ => rfl) (fun h => by cases h)) ?_
    clear hF; intro a hF
    refine seq_yl hF (wn_none rfl) rfl rfl (yl_move hF rfl rfl) ?_
    clear hF; intro a hF
    refine seq_skip hF (wn_f hF rfl rfl rfl rfl) rfl rfl ?_
    clear hF; intro a hF
    refine seq_skip hF (wn_f hF rfl rfl rfl rfl) rfl rfl ?_
    clear hF; intro a hF
    refine seq_skip hF (wn_f hF rfl rfl rfl rfl) rfl rfl ?_
    clear hF; intro a hF
    refine seq_yl hF (wn_none rfl) rfl rfl (yl_pick (u := _) (v := undef) hF rfl rfl (fun _ => rfl) (fun h => by cases h)) ?_
    clear hF; intro a hF
    refine wpList_nil ?_
    refine then_n ?_
    refine c_cond_t hF rfl ?_
    refine c_seq ?_
    refine c_region ?_
    refine seq_yl hF (wn_none rfl) rfl rfl (yl_assign hF rfl rfl) ?_
    clear hF; intro a hF
    refine wpList_nil ?_
    refine then_n ?_
    refine wp_ret ?_
    refine then_r ?_
    refine sc_r ?_
    refine ret_t hF rfl rfl ?_
    replace hS := hS.addNil 3 1
    exact ⟨_, rfl, _, _, rfl, exp_no (by first | exact .inl (by assumption) | exact .inr (.inl (by omega)) | exact .inr (.inr (by omega))), by simp, (hS.sub [0] (by decide) (by first | rfl | simp) (by simp))⟩
  · first | (replace hc105 := of_decide_eq_false hc105) | (replace hc105 := of_decide_eq_true (bnot_f hc105)) | (subst hc105) | (replace hc105 := bnot_f hc105; subst hc105) | (replace hc105 := bnot_f hc105) | skip
    refine seq_yl hF (wn_t hF rfl rfl rfl rfl) rfl rfl (yl_move hF rfl rfl) ?_
    clear hF; intro a hF
    refine seq_wp (wn_t hF rfl rfl rfl rfl) (wp_call (vs := [_]) hF rfl rfl rfl rfl cf33 (tick_any (t) _) ?_)
    clear hF; rintro _ w ⟨rfl, hS1⟩ a hF
    replace hS := hS.callB hS1 rfl; clear hS1
    refine seq_yl hF (wn_t hF rfl rfl rfl rfl) rfl rfl (yl_un hF rfl rfl (fun _ => run_not)) ?_
    clear hF; intro a hF
    refine seq_yl hF (wn_none rfl) rfl rfl (yl_pick (u := _) (v := undef) hF rfl rfl (fun h => by cases h) (fun _ => rfl)) ?_
    clear hF; intro a hF
    refine seq_yl hF (wn_none rfl) rfl rfl (yl_move hF rfl rfl) ?_
    clear hF; intro a hF
    refine fr_split hF (fun hc107 hF => ?_) (fun hc107 hF => ?_)
    · first | (replace hc107 := of_decide_eq_true hc107) | (replace hc107 := of_decide_eq_false (bnot_t hc107)) | (subst hc107) | (replace hc107 := bnot_t hc107; subst hc107) | (replace hc107 := bnot_t hc107) | skip
      refine seq_skip hF (wn_f hF rfl rfl rfl rfl) rfl rfl ?_
      clear hF; intro a hF
      refine seq_skip hF (wn_f hF rfl rfl rfl rfl) rfl rfl ?_
      clear hF; intro a hF
      refine seq_skip hF (wn_f hF rfl rfl rfl rfl) rfl rfl ?_
      clear hF; intro a hF
      refine seq_yl hF (wn_none rfl) rfl rfl (yl_pick (u := _) (v := undef) hF rfl rfl (fun _ => rfl) (fun h => by cases h)) ?_
      clear hF; intro a hF
      refine wpList_nil ?_
      refine then_n ?_
      refine c_cond_t hF rfl ?_
      refine c_seq ?_
      refine c_region ?_
      refine seq_yl hF (wn_none rfl) rfl rfl (yl_assign hF rfl rfl) ?_
      clear hF; intro a hF
      refine wpList_nil ?_
      refine then_n ?_
      refine wp_ret ?_
      refine then_r ?_
      refine sc_r ?_
      refine ret_t hF rfl rfl ?_
      replace hS := hS.addNil 3 1
      exact ⟨_, rfl, _, _, rfl, exp_no (by first | exact .inl (by assumption) | exact .inr (.inl (by omega)) | exact .inr (.inr (by omega))), by simp, (hS.sub [0] (by decide) (by first | rfl | simp) (by simp))⟩
    · first | (replace hc107 := of_decide_eq_false hc107) | (replace hc107 := of_decide_eq_true (bnot_f hc107)) | (subst hc107) | (replace hc107 := bnot_f hc107; subst hc107) | (replace hc107 := bnot_f hc107) | skip
      refine seq_yl hF (wn_t hF rfl rfl rfl rfl) rfl rfl (yl_move hF rfl rfl) ?_
      clear hF; intro a hF
      refine seq_wp (wn_t hF rfl rfl rfl rfl) (wp_call (vs := [_]) hF rfl rfl rfl rfl cf33 (tick_any (u) _) ?_)
      clear hF; rintro _ w ⟨rfl, hS1⟩ a hF
      replace hS := hS.callB hS1 rfl; clear hS1
      refine seq_yl hF (wn_t hF rfl rfl rfl rfl) rfl rfl (yl_un hF rfl rfl (fun _ => run_not)) ?_
      clear hF; intro a hF
      refine seq_yl hF (wn_none rfl) rfl rfl (yl_pick (u := _) (v := undef) hF rfl rfl (fun h => by cases h) (fun _ => rfl)) ?_
      clear hF; intro a hF
      refine wpList_nil ?_
      refine then_n ?_
      refine c_cond hF rfl (fun hc109 => ?_) (fun hc109 => ?_)
      · first | (replace hc109 := of_decide_eq_true hc109) | (replace hc109 := of_decide_eq_false (bnot_t hc109)) | (subst hc109) | (replace hc109 := bnot_t hc109; subst hc109) | (replace hc109 := bnot_t hc109) | skip
        refine c_seq ?_
        refine c_region ?_
        refine seq_yl hF (wn_none rfl) rfl rfl (yl_assign hF rfl rfl) ?_
        clear hF; intro a hF
        refine wpList_nil ?_
        refine then_n ?_
        refine wp_ret ?_
        refine then_r ?_
        refine sc_r ?_
        refine ret_t hF rfl rfl ?_
        replace hS := hS.addNil 3 1
        exact ⟨_, rfl, _, _, rfl, exp_no (by first | exact .inl (by assumption) | exact .inr (.inl (by omega)) | exact .inr (.inr (by omega))), by simp, (hS.sub [0] (by decide) (by first | rfl | simp) (by simp))⟩
      · first | (replace hc109 := of_decide_eq_false hc109) | (replace hc109 := of_decide_eq_true (bnot_f hc109)) | (subst hc109) | (replace hc109 := bnot_f hc109; subst hc109) | (replace hc109 := bnot_f hc109) | skip
        refine wp_skip ?_
        refine then_n ?_
        refine c_seq ?_
        refine c_region ?_
        refine seq_yl hF (wn_none rfl) rfl rfl (yl_assign hF rfl rfl) ?_
        clear hF; intro a hF
        refine wpList_nil ?_
        refine then_n ?_
        refine c_seq ?_
        refine wp_label ?_
        refine then_n ?_
        refine c_seq ?_
        refine c_seq ?_
        refine c_region ?_
        refine seq_yl hF (wn_none rfl) rfl rfl (yl_move hF rfl rfl) ?_
        clear hF; intro a hF
        refine seq_yl hF (wn_none rfl) rfl rfl (yl_len hF rfl rfl (fun _ => run_lenRd sl26 (hS.rdRo 0 rfl))) ?_
        clear hF; intro a hF
        refine seq_yl hF (wn_none rfl) rfl rfl (yl_move hF rfl rfl) ?_
        clear hF; intro a hF
        refine wpList_nil ?_
        refine then_n ?_
        refine wp_block ?_
        replace hS := hS.addNil 3 1
        refine c_loop (fun m a w => ∃ (k : Nat) (AvR : Option Addr) (cvR : Nat), m = L.length - k ∧ (k ≤ L.length) ∧ Fr 43 a [(0, .slice Av (L).length cv), (1, .int .i64 (t)), (2, .int .i64 (u)), (7, .slice AvR ((expL (L.take k) (t - u))).length cvR), (23, .slice Av (L).length cv), (24, .int .i64 (((L).length : Nat) : Int)), (25, .int .i64 ((k : Nat) : Int))] ∧ Sat w0 w (.ro 2 (.slice Av (L).length cv) (L).length (cells enc44 (L)) :: .row 3 1 (.slice AvR ((expL (L.take k) (t - u))).length cvR) ((expL (L.take k) (t - u))).length (cells encI ((expL (L.take k) (t - u)))) :: [])) (L.length - 0) ?_ ?_
        · exact ⟨0, none, 0, rfl, (Nat.zero_le _), hF.to [0, 1, 2, 7, 23, 24, 25] rfl, (hS.sub [1, 0] (by decide) (by first | rfl | simp) (by simp))⟩
        · clear hF hS; try clear hSS
          clear a w; rintro m a w ⟨k, AvR, cvR, rfl, hinv, hF, hS⟩
          have hk := hinv
          have hxl : (expL (L.take k) (t - u)).length ≤ k := Nat.le_trans (exp_len _ _) (by simp; omega)
          refine c_seq ?_
          refine c_region ?_
          refine seq_yl hF (wn_none rfl) rfl rfl (yl_bin hF rfl rfl rfl rfl (fun _ => run_lss)) ?_
          clear hF; intro a hF
          refine wpList_nil ?_
          refine then_n ?_
          refine c_seq ?_
          refine c_cond hF rfl (fun hc111 => ?_) (fun hc111 => ?_)
          · first | (replace hc111 := of_decide_eq_true hc111) | (replace hc111 := of_decide_eq_false (bnot_t hc111)) | (subst hc111) | (replace hc111 := bnot_t hc111; subst hc111) | (replace hc111 := bnot_t hc111) | skip
            refine wp_skip ?_
            refine then_n ?_
            refine c_seq ?_
            refine wp_block ?_
            refine c_seq ?_
            refine c_region ?_
            have hlt_hx112 : k < (L).length := by first | omega | (simp; done) | (simp; omega)
            obtain ⟨ad113, rfl⟩ := rd_some (hS.rdRo 0 rfl) hlt_hx112
            obtain ⟨x112, hx112⟩ := get_some hlt_hx112
            refine seq_yl hF (wn_none rfl) rfl rfl (yl_indexAddr hF rfl rfl rfl (fun _ => run_idx' sl26 sz44 (hS.rdRo 0 rfl) hlt_hx112)) ?_
            clear hF; intro a hF
            refine seq_yl hF (wn_none rfl) rfl rfl (yl_loadEl (rs := [.int .i64 (x112.f0), .int .i64 (x112.f1)]) hF rfl rfl ag44 sz44 rfl (fun _ h => rd_cells (enc := enc44) (by subst h; exact hS.rdRo 0 rfl) enc44_len hx112)) ?_
            clear hF; intro a hF
            refine seq_wp (wn_none rfl) (wp_alloc (cs := #[_, _]) hF hS rfl rfl rfl zr44 rfl ?_)
            clear hF hS; intro a w g114 hF hS
            refine seq_wp (wn_none rfl) (wp_store (cs' := #[_, _]) hF hS rfl rfl rfl rfl 0 rfl sz44 (by simp [Value.cells, Value.oneCell']) (by simp [Value.cells]) rfl ?_)
            clear hF hS; intro a w hF hS
            refine wpList_nil ?_
            refine then_n ?_
            refine wp_block ?_
            refine c_seq ?_
            refine c_region ?_
            refine seq_yl hF (wn_none rfl) rfl rfl (yl_fieldAddr hF rfl rfl (fun w => by kernel_rfl : ∀ w, (Instr.fieldAt 44 (.pointer (some ⟨g114, 0, none⟩)) 1).run Try.prog w = .ok (.pointer (some ⟨g114, 1, none⟩)) w)) ?_
            clear hF; intro a hF
            refine seq_yl hF (wn_none rfl) rfl rfl (yl_load (fun _ h => h ▸ hS) hF rfl rfl 0 rfl ag3 rfl) ?_
            clear hF; intro a hF
            refine seq_yl hF (wn_none rfl) rfl rfl (yl_move hF rfl rfl) ?_
            clear hF; intro a hF
            refine seq_yl hF (wn_none rfl) rfl rfl (yl_move hF rfl rfl) ?_
            clear hF; intro a hF
            refine seq_yl hF (wn_none rfl) rfl rfl (yl_bin hF rfl rfl rfl rfl (fun _ => run_sub (by refine ⟨?_, ?_⟩ <;> omega))) ?_
            clear hF; intro a hF
            refine seq_yl hF (wn_none rfl) rfl rfl (yl_bin hF rfl rfl rfl rfl (fun _ => run_gtr)) ?_
            clear hF; intro a hF
            refine seq_yl hF (wn_none rfl) rfl rfl (yl_assign hF rfl rfl) ?_
            clear hF; intro a hF
            refine wpList_nil ?_
            refine then_n ?_
            refine c_cond hF rfl (fun hc115 => ?_) (fun hc115 => ?_)
            · first | (replace hc115 := of_decide_eq_true hc115) | (replace hc115 := of_decide_eq_false (bnot_t hc115)) | (subst hc115) | (replace hc115 := bnot_t hc115; subst hc115) | (replace hc115 := bnot_t hc115) | skip
              refine wp_exit ?_
              refine inb_o (by decide) ?_
              refine inb_o (by decide) ?_
              refine then_x ?_
              refine then_x ?_
              refine inb_x ?_
              refine then_n ?_
              refine c_seq ?_
              refine c_region ?_
              refine seq_yl hF (wn_none rfl) rfl rfl (yl_move hF rfl rfl) ?_
              clear hF; intro a hF
              refine seq_yl hF (wn_none rfl) rfl rfl (yl_assign hF rfl rfl) ?_
              clear hF; intro a hF
              refine wpList_nil ?_
              refine then_n ?_
              refine wp_ret ?_
              refine sc_r ?_
              refine ret_t hF rfl rfl ?_
              exact ⟨_, rfl, _, (expL (L.take k) (t - u)), rfl, (exp_ok (by assumption) (by omega) (by omega)).trans (by first | exact exp_brk (by assumption) hx112 (by omega) | rw [List.take_of_length_le (show L.length ≤ k by omega)]), by omega, (hS.sub [2] (by decide) (by first | rfl | simp) (by simp))⟩
            · first | (replace hc115 := of_decide_eq_false hc115) | (replace hc115 := of_decide_eq_true (bnot_f hc115)) | (subst hc115) | (replace hc115 := bnot_f hc115; subst hc115) | (replace hc115 := bnot_f hc115) | skip
              refine c_region ?_
              refine seq_yl hF (wn_none rfl) rfl rfl (yl_move hF rfl rfl) ?_
              clear hF; intro a hF
              refine seq_yl hF (wn_none rfl) rfl rfl (yl_fieldAddr hF rfl rfl (fun w => by kernel_rfl : ∀ w, (Instr.fieldAt 44 (.pointer (some ⟨g114, 0, none⟩)) 0).run Try.prog w = .ok (.pointer (some ⟨g114, 0, none⟩)) w)) ?_
              clear hF; intro a hF
              refine seq_yl hF (wn_none rfl) rfl rfl (yl_load (fun _ h => h ▸ hS) hF rfl rfl 0 rfl ag3 rfl) ?_
              clear hF; intro a hF
              refine seq_wp (wn_none rfl) (wp_bslice (parts := [(0, .tmp 31)]) (vs := [(0, _)]) (enc := encI) (e := 3) (size := 1) (cs := #[.int .i64 (x112.f0)]) hF hS rfl rfl rfl rfl ([(x112.f0)] : List Int) (fun w => by kernel_rfl) rfl rfl rfl (by decide) ?_)
              clear hF hS; intro a w v116 hF hS
              obtain ⟨Av116, cv116, rfl⟩ := hS.form 0 rfl
              refine seq_wp (wn_none rfl) (wp_app (enc := encI) hF hS rfl rfl rfl rfl rfl 3 rfl sl22 inf3 rfl (by decide) (hS.rdRow 0 rfl) encI_one (by decide) (by first | omega | (simp only [List.length_append, List.length_cons, List.length_nil]; omega) | (simp; omega)) ?_)
              clear hF hS; intro a w v117 hF hS
              obtain ⟨Av117, cv117, rfl⟩ := hS.form 3 rfl
              refine seq_yl hF (wn_none rfl) rfl rfl (yl_assign hF rfl rfl) ?_
              clear hF; intro a hF
              refine wpList_nil ?_
              refine inb_n ?_
              refine inb_n ?_
              refine then_n ?_
              refine c_region ?_
              refine seq_yl hF (wn_none rfl) rfl rfl (yl_bin hF rfl rfl rfl rfl (fun _ => run_inc (by omega))) ?_
              clear hF; intro a hF
              refine seq_yl hF (wn_none rfl) rfl rfl (yl_move hF rfl rfl) ?_
              clear hF; intro a hF
              refine wpList_nil ?_
              refine then_n ?_
              rw [show ((expL (L.take k) (t - u)) ++ ([(x112.f0)] : List Int)) = expL (L.take (k + 1)) (t - u) from (exp_snoc hx112 (by omega)).symm] at hF hS
              exact ⟨_, (by omega), k + 1, Av117, cv117, rfl, (by omega), hF.to [0, 1, 2, 7, 23, 24, 25] rfl, (hS.sub [2, 3] (by decide) (by first | rfl | simp) (by simp))⟩
          · first | (replace hc111 := of_decide_eq_false hc111) | (replace hc111 := of_decide_eq_true (bnot_f hc111)) | (subst hc111) | (replace hc111 := bnot_f hc111; subst hc111) | (replace hc111 := bnot_f hc111) | skip
            refine wp_exit ?_
            refine then_x ?_
            refine then_x ?_
            refine inb_x ?_
            refine then_n ?_
            refine c_seq ?_
            refine c_region ?_
            refine seq_yl hF (wn_none rfl) rfl rfl (yl_move hF rfl rfl) ?_
            clear hF; intro a hF
            refine seq_yl hF (wn_none rfl) rfl rfl (yl_assign hF rfl rfl) ?_
            clear hF; intro a hF
            refine wpList_nil ?_
            refine then_n ?_
            refine wp_ret ?_
            refine sc_r ?_
            refine ret_t hF rfl rfl ?_
            exact ⟨_, rfl, _, (expL (L.take k) (t - u)), rfl, (exp_ok (by assumption) (by omega) (by omega)).trans (by first | exact exp_brk (by assumption) hx112 (by omega) | rw [List.take_of_length_le (show L.length ≤ k by omega)]), by omega, (hS.sub [1] (by decide) (by first | rfl | simp) (by simp))⟩

set_option maxHeartbeats 1000000 in
set_option maxRecDepth 100000 in
theorem expired2_any (v : Value) (L : List E44) (t u : Int) (w0 : World) (hv : Rd w0 2 v (L).length (cells enc44 (L))) (hL : L.length ≤ 1000000) :
    Fn Try.prog 16 #[v, .int .i64 t, .int .i64 u] w0 (fun v w' => ∃ (v1 : Value) (M : List Int), v = v1 ∧ expF L t u = M ∧ M.length ≤ 1000000 ∧ Sat w0 w' [.row 3 1 v1 (M).length (cells encI (M))]) := by
  obtain ⟨Av, cv, rfl⟩ := Rd.form hv
  refine c_enter (N := 52) (l := [_, _, _]) Try.func16 rfl rfl (fun a w hF hS => ?_)
  replace hS := hS.addRo hv
  refine c_seq ?_
  refine c_region ?_
  refine seq_yl hF (wn_none rfl) rfl rfl (yl_assign hF rfl rfl) ?_
  clear hF; intro a hF
  refine wpList_nil ?_
  refine then_n ?_
  refine c_seq ?_
  refine c_seq ?_
  refine c_region ?_
  refine seq_yl hF (wn_none rfl) rfl rfl (yl_move hF rfl rfl) ?_
  clear hF; intro a hF
  refine seq_wp (wn_none rfl) (wp_call (vs := [_]) hF rfl rfl rfl rfl cf20 (check2 _ L  _ (hS.rdRo 0 rfl) (by first | omega | (simp; done) | (simp; omega))) ?_)
  clear hF; rintro _ w ⟨rfl, hS1⟩ a hF
  replace hS := hS.callB hS1 rfl; clear hS1
  refine seq_yl hF (wn_none rfl) rfl rfl (yl_un hF rfl rfl (fun _ => run_not)) ?_
  clear hF; intro a hF
  refine seq_yl hF (wn_none rfl) rfl rfl (yl_move hF rfl rfl) ?_
  clear hF; intro a hF
  refine fr_split hF (fun hc118 hF => ?_) (fun hc118 hF => ?_)
  · first | (replace hc118 := of_decide_eq_true hc118) | (replace hc118 := of_decide_eq_false (bnot_t hc118)) | (subst hc118) | (replace hc118 := bnot_t hc118; subst hc118) | (replace hc118 := bnot_t hc118) | skip
    refine seq_skip hF (wn_f hF rfl rfl rfl rfl) rfl rfl ?_
    clear hF; intro a hF
    refine seq_skip hF (wn_f hF rfl rfl rfl rfl) rfl rfl ?_
    clear hF; intro a hF
    refine seq_yl hF (wn_none rfl) rfl rfl (yl_pick (u := _) (v := undef) hF rfl rfl (fun _ => rfl) (fun h => by cases h)) ?_
    clear hF; intro a hF
    refine seq_yl hF (wn_none rfl) rfl rfl (yl_move hF rfl rfl) ?_
    clear hF; intro a hF
    refine seq_skip hF (wn_f hF rfl rfl rfl rfl) rfl rfl ?_
    clear hF; intro a hF
    refine seq_skip hF (wn_f hF rfl rfl rfl rfl) rfl rfl ?_
    clear hF; intro a hF
    refine seq_yl hF (wn_none rfl) rfl rfl (yl_pick (u := _) (v := undef) hF rfl rfl (fun _ => rfl) (fun h => by cases h)) ?_
    clear hF; intro a hF
    refine seq_yl hF (wn_none rfl) rfl rfl (yl_move hF rfl rfl) ?_
    clear hF; intro a hF
    refine seq_skip hF (wn_f hF rfl rfl rfl rfl) rfl rfl ?_
    clear hF; intro a hF
    refine seq_skip hF (wn_f hF rfl rfl rfl rfl) rfl rfl ?_
    clear hF; intro a hF
    refine seq_yl hF (wn_none rfl) rfl rfl (yl_pick (u := _) (v := undef) hF rfl rfl (fun _ => rfl) (fun h => by cases h)) ?_
    clear hF; intro a hF
    refine seq_yl hF (wn_none rfl) rfl rfl (yl_move hF rfl rfl) ?_
    clear hF; intro a hF
    refine seq_skip hF (wn_f hF rfl rfl rfl rfl) rfl rfl ?_
    clear hF; intro a hF
    refine seq_skip hF (wn_f hF rfl rfl rfl rfl) rfl rfl ?_
    clear hF; intro a hF
    refine seq_yl hF (wn_none rfl) rfl rfl (yl_pick (u := _) (v := undef) hF rfl rfl (fun _ => rfl) (fun h => by cases h)) ?_
    clear hF; intro a hF
    refine wpList_nil ?_
    refine then_n ?_
    refine c_cond_t hF rfl ?_
    refine c_seq ?_
    refine c_region ?_
    refine seq_yl hF (wn_none rfl) rfl rfl (yl_assign hF rfl rfl) ?_
    clear hF; intro a hF
    refine wpList_nil ?_
    refine then_n ?_
    refine wp_ret ?_
    refine then_r ?_
    refine ret_t hF rfl rfl ?_
    replace hS := hS.addNil 3 1
    exact ⟨_, rfl, _, _, rfl, exp_no (by first | exact .inl (by assumption) | exact .inr (.inl (by omega)) | exact .inr (.inr (by omega))), by simp, (hS.sub [0] (by decide) (by first | rfl | simp) (by simp))⟩
  · first | (replace hc118 := of_decide_eq_false hc118) | (replace hc118 := of_decide_eq_true (bnot_f hc118)) | (subst hc118) | (replace hc118 := bnot_f hc118; subst hc118) | (replace hc118 := bnot_f hc118) | skip
    refine seq_yl hF (wn_t hF rfl rfl rfl rfl) rfl rfl (yl_move hF rfl rfl) ?_
    clear hF; intro a hF
    refine seq_yl hF (wn_t hF rfl rfl rfl rfl) rfl rfl (yl_bin hF rfl rfl rfl rfl (fun _ => run_lss)) ?_
    clear hF; intro a hF
    refine seq_yl hF (wn_none rfl) rfl rfl (yl_pick (u := _) (v := undef) hF rfl rfl (fun h => by cases h) (fun _ => rfl)) ?_
    clear hF; intro a hF
    refine seq_yl hF (wn_none rfl) rfl rfl (yl_move hF rfl rfl) ?_
    clear hF; intro a hF
    refine fr_split hF (fun hc120 hF => ?_) (fun hc120 hF => ?_)
    · first | (replace hc120 := of_decide_eq_true hc120) | (replace hc120 := of_decide_eq_false (bnot_t hc120)) | (subst hc120) | (replace hc120 := bnot_t hc120; subst hc120) | (replace hc120 := bnot_t hc120) | skip
      refine seq_skip hF (wn_f hF rfl rfl rfl rfl) rfl rfl ?_
      clear hF; intro a hF
      refine seq_skip hF (wn_f hF rfl rfl rfl rfl) rfl rfl ?_
      clear hF; intro a hF
      refine seq_yl hF (wn_none rfl) rfl rfl (yl_pick (u := _) (v := undef) hF rfl rfl (fun _ => rfl) (fun h => by cases h)) ?_
      clear hF; intro a hF
      refine seq_yl hF (wn_none rfl) rfl rfl (yl_move hF rfl rfl) ?_
      clear hF; intro a hF
      refine seq_skip hF (wn_f hF rfl rfl rfl rfl) rfl rfl ?_
      clear hF; intro a hF
      refine seq_skip hF (wn_f hF rfl rfl rfl rfl) rfl rfl ?_
      clear hF; intro a hF
      refine seq_yl hF (wn_none rfl) rfl rfl (yl_pick (u := _) (v := undef) hF rfl rfl (fun _ => rfl) (fun h => by cases h)) ?_
      clear hF; intro a hF
      refine seq_yl hF (wn_none rfl) rfl rfl (yl_move hF rfl rfl) ?_
      clear hF; intro a hF
      refine seq_skip hF (wn_f hF rfl rfl rfl rfl) rfl rfl ?_
      clear hF; intro a hF
      refine seq_skip hF (wn_f hF rfl rfl rfl rfl) rfl rfl ?_
      clear hF; intro a hF
      refine seq_yl hF (wn_none rfl) rfl rfl (yl_pick (u := _) (v := undef) hF rfl rfl (fun _ => rfl) (fun h => by cases h)) ?_
      clear hF; intro a hF
      refine wpList_nil ?_
      refine then_n ?_
      refine c_cond_t hF rfl ?_
      refine c_seq ?_
      refine c_region ?_
      refine seq_yl hF (wn_none rfl) rfl rfl (yl_assign hF rfl rfl) ?_
      clear hF; intro a hF
      refine wpList_nil ?_
      refine then_n ?_
      refine wp_ret ?_
      refine then_r ?_
      refine ret_t hF rfl rfl ?_
      replace hS := hS.addNil 3 1
      exact ⟨_, rfl, _, _, rfl, exp_no (by first | exact .inl (by assumption) | exact .inr (.inl (by omega)) | exact .inr (.inr (by omega))), by simp, (hS.sub [0] (by decide) (by first | rfl | simp) (by simp))⟩
    · first | (replace hc120 := of_decide_eq_false hc120) | (replace hc120 := of_decide_eq_true (bnot_f hc120)) | (subst hc120) | (replace hc120 := bnot_f hc120; subst hc120) | (replace hc120 := bnot_f hc120) | skip
      refine seq_yl hF (wn_t hF rfl rfl rfl rfl) rfl rfl (yl_move hF rfl rfl) ?_
      clear hF; intro a hF
      refine seq_yl hF (wn_t hF rfl rfl rfl rfl) rfl rfl (yl_bin hF rfl rfl rfl rfl (fun _ => run_gtr)) ?_
      clear hF; intro a hF
      refine seq_yl hF (wn_none rfl) rfl rfl (yl_pick (u := _) (v := undef) hF rfl rfl (fun h => by cases h) (fun _ => rfl)) ?_
      clear hF; intro a hF
      refine seq_yl hF (wn_none rfl) rfl rfl (yl_move hF rfl rfl) ?_
      clear hF; intro a hF
      refine fr_split hF (fun hc122 hF => ?_) (fun hc122 hF => ?_)
      · first | (replace hc122 := of_decide_eq_true hc122) | (replace hc122 := of_decide_eq_false (bnot_t hc122)) | (subst hc122) | (replace hc122 := bnot_t hc122; subst hc122) | (replace hc122 := bnot_t hc122) | skip
        refine seq_skip hF (wn_f hF rfl rfl rfl rfl) rfl rfl ?_
        clear hF; intro a hF
        refine seq_skip hF (wn_f hF rfl rfl rfl rfl) rfl rfl ?_
        clear hF; intro a hF
        refine seq_yl hF (wn_none rfl) rfl rfl (yl_pick (u := _) (v := undef) hF rfl rfl (fun _ => rfl) (fun h => by cases h)) ?_
        clear hF; intro a hF
        refine seq_yl hF (wn_none rfl) rfl rfl (yl_move hF rfl rfl) ?_
        clear hF; intro a hF
        refine seq_skip hF (wn_f hF rfl rfl rfl rfl) rfl rfl ?_
        clear hF; intro a hF
        refine seq_skip hF (wn_f hF rfl rfl rfl rfl) rfl rfl ?_
        clear hF; intro a hF
        refine seq_yl hF (wn_none rfl) rfl rfl (yl_pick (u := _) (v := undef) hF rfl rfl (fun _ => rfl) (fun h => by cases h)) ?_
        clear hF; intro a hF
        refine wpList_nil ?_
        refine then_n ?_
        refine c_cond_t hF rfl ?_
        refine c_seq ?_
        refine c_region ?_
        refine seq_yl hF (wn_none rfl) rfl rfl (yl_assign hF rfl rfl) ?_
        clear hF; intro a hF
        refine wpList_nil ?_
        refine then_n ?_
        refine wp_ret ?_
        refine then_r ?_
        refine ret_t hF rfl rfl ?_
        replace hS := hS.addNil 3 1
        exact ⟨_, rfl, _, _, rfl, exp_no (by first | exact .inl (by assumption) | exact .inr (.inl (by omega)) | exact .inr (.inr (by omega))), by simp, (hS.sub [0] (by decide) (by first | rfl | simp) (by simp))⟩
      · first | (replace hc122 := of_decide_eq_false hc122) | (replace hc122 := of_decide_eq_true (bnot_f hc122)) | (subst hc122) | (replace hc122 := bnot_f hc122; subst hc122) | (replace hc122 := bnot_f hc122) | skip
        refine seq_yl hF (wn_t hF rfl rfl rfl rfl) rfl rfl (yl_move hF rfl rfl) ?_
        clear hF; intro a hF
        refine seq_yl hF (wn_t hF rfl rfl rfl rfl) rfl rfl (yl_bin hF rfl rfl rfl rfl (fun _ => run_lss)) ?_
        clear hF; intro a hF
        refine seq_yl hF (wn_none rfl) rfl rfl (yl_pick (u := _) (v := undef) hF rfl rfl (fun h => by cases h) (fun _ => rfl)) ?_
        clear hF; intro a hF
        refine seq_yl hF (wn_none rfl) rfl rfl (yl_move hF rfl rfl) ?_
        clear hF; intro a hF
        refine fr_split hF (fun hc124 hF => ?_) (fun hc124 hF => ?_)
        · first | (replace hc124 := of_decide_eq_true hc124) | (replace hc124 := of_decide_eq_false (bnot_t hc124)) | (subst hc124) | (replace hc124 := bnot_t hc124; subst hc124) | (replace hc124 := bnot_t hc124) | skip
          refine seq_skip hF (wn_f hF rfl rfl rfl rfl) rfl rfl ?_
          clear hF; intro a hF
          refine seq_skip hF (wn_f hF rfl rfl rfl rfl) rfl rfl ?_
          clear hF; intro a hF
          refine seq_yl hF (wn_none rfl) rfl rfl (yl_pick (u := _) (v := undef) hF rfl rfl (fun _ => rfl) (fun h => by cases h)) ?_
          clear hF; intro a hF
          refine wpList_nil ?_
          refine then_n ?_
          refine c_cond_t hF rfl ?_
          refine c_seq ?_
          refine c_region ?_
          refine seq_yl hF (wn_none rfl) rfl rfl (yl_assign hF rfl rfl) ?_
          clear hF; intro a hF
          refine wpList_nil ?_
          refine then_n ?_
          refine wp_ret ?_
          refine then_r ?_
          refine ret_t hF rfl rfl ?_
          replace hS := hS.addNil 3 1
          exact ⟨_, rfl, _, _, rfl, exp_no (by first | exact .inl (by assumption) | exact .inr (.inl (by omega)) | exact .inr (.inr (by omega))), by simp, (hS.sub [0] (by decide) (by first | rfl | simp) (by simp))⟩
        · first | (replace hc124 := of_decide_eq_false hc124) | (replace hc124 := of_decide_eq_true (bnot_f hc124)) | (subst hc124) | (replace hc124 := bnot_f hc124; subst hc124) | (replace hc124 := bnot_f hc124) | skip
          refine seq_yl hF (wn_t hF rfl rfl rfl rfl) rfl rfl (yl_move hF rfl rfl) ?_
          clear hF; intro a hF
          refine seq_yl hF (wn_t hF rfl rfl rfl rfl) rfl rfl (yl_bin hF rfl rfl rfl rfl (fun _ => run_gtr)) ?_
          clear hF; intro a hF
          refine seq_yl hF (wn_none rfl) rfl rfl (yl_pick (u := _) (v := undef) hF rfl rfl (fun h => by cases h) (fun _ => rfl)) ?_
          clear hF; intro a hF
          refine wpList_nil ?_
          refine then_n ?_
          refine c_cond hF rfl (fun hc126 => ?_) (fun hc126 => ?_)
          · first | (replace hc126 := of_decide_eq_true hc126) | (replace hc126 := of_decide_eq_false (bnot_t hc126)) | (subst hc126) | (replace hc126 := bnot_t hc126; subst hc126) | (replace hc126 := bnot_t hc126) | skip
            refine c_seq ?_
            refine c_region ?_
            refine seq_yl hF (wn_none rfl) rfl rfl (yl_assign hF rfl rfl) ?_
            clear hF; intro a hF
            refine wpList_nil ?_
            refine then_n ?_
            refine wp_ret ?_
            refine then_r ?_
            refine ret_t hF rfl rfl ?_
            replace hS := hS.addNil 3 1
            exact ⟨_, rfl, _, _, rfl, exp_no (by first | exact .inl (by assumption) | exact .inr (.inl (by omega)) | exact .inr (.inr (by omega))), by simp, (hS.sub [0] (by decide) (by first | rfl | simp) (by simp))⟩
          · first | (replace hc126 := of_decide_eq_false hc126) | (replace hc126 := of_decide_eq_true (bnot_f hc126)) | (subst hc126) | (replace hc126 := bnot_f hc126; subst hc126) | (replace hc126 := bnot_f hc126) | skip
            refine wp_skip ?_
            refine then_n ?_
            refine c_seq ?_
            refine c_region ?_
            refine seq_yl hF (wn_none rfl) rfl rfl (yl_assign hF rfl rfl) ?_
            clear hF; intro a hF
            refine wpList_nil ?_
            refine then_n ?_
            refine c_seq ?_
            refine c_seq ?_
            refine c_region ?_
            refine seq_yl hF (wn_none rfl) rfl rfl (yl_assign hF rfl rfl) ?_
            clear hF; intro a hF
            refine wpList_nil ?_
            refine then_n ?_
            refine wp_block ?_
            replace hS := hS.addNil 3 1
            refine c_loop (fun m a w => ∃ (k : Nat) (AvR : Option Addr) (cvR : Nat), m = L.length - k ∧ (k ≤ L.length) ∧ Fr 52 a [(0, .slice Av (L).length cv), (1, .int .i64 (t)), (2, .int .i64 (u)), (7, .slice AvR ((expL (L.take k) (t - u))).length cvR), (8, .int .i64 ((k : Nat) : Int))] ∧ Sat w0 w (.ro 2 (.slice Av (L).length cv) (L).length (cells enc44 (L)) :: .row 3 1 (.slice AvR ((expL (L.take k) (t - u))).length cvR) ((expL (L.take k) (t - u))).length (cells encI ((expL (L.take k) (t - u)))) :: [])) (L.length - 0) ?_ ?_
            · exact ⟨0, none, 0, rfl, (Nat.zero_le _), hF.to [0, 1, 2, 7, 8] rfl, (hS.sub [1, 0] (by decide) (by first | rfl | simp) (by simp))⟩
            · clear hF hS; try clear hSS
              clear a w; rintro m a w ⟨k, AvR, cvR, rfl, hinv, hF, hS⟩
              have hk := hinv
              have hxl : (expL (L.take k) (t - u)).length ≤ k := Nat.le_trans (exp_len _ _) (by simp; omega)
              refine c_seq ?_
              refine c_seq ?_
              refine c_region ?_
              refine seq_yl hF (wn_none rfl) rfl rfl (yl_move hF rfl rfl) ?_
              clear hF; intro a hF
              refine seq_yl hF (wn_none rfl) rfl rfl (yl_move hF rfl rfl) ?_
              clear hF; intro a hF
              refine seq_yl hF (wn_none rfl) rfl rfl (yl_len hF rfl rfl (fun _ => run_lenRd sl26 (hS.rdRo 0 rfl))) ?_
              clear hF; intro a hF
              refine seq_yl hF (wn_none rfl) rfl rfl (yl_bin hF rfl rfl rfl rfl (fun _ => run_lss)) ?_
              clear hF; intro a hF
              refine wpList_nil ?_
              refine then_n ?_
              refine c_cond hF rfl (fun hc128 => ?_) (fun hc128 => ?_)
              · first | (replace hc128 := of_decide_eq_true hc128) | (replace hc128 := of_decide_eq_false (bnot_t hc128)) | (subst hc128) | (replace hc128 := bnot_t hc128; subst hc128) | (replace hc128 := bnot_t hc128) | skip
                refine wp_skip ?_
                refine then_n ?_
                refine c_seq ?_
                refine wp_block ?_
                refine c_seq ?_
                refine c_region ?_
                refine seq_yl hF (wn_none rfl) rfl rfl (yl_move hF rfl rfl) ?_
                clear hF; intro a hF
                refine seq_yl hF (wn_none rfl) rfl rfl (yl_move hF rfl rfl) ?_
                clear hF; intro a hF
                have hlt_hx129 : k < (L).length := by first | omega | (simp; done) | (simp; omega)
                obtain ⟨ad130, rfl⟩ := rd_some (hS.rdRo 0 rfl) hlt_hx129
                obtain ⟨x129, hx129⟩ := get_some hlt_hx129
                refine seq_yl hF (wn_none rfl) rfl rfl (yl_indexAddr hF rfl rfl rfl (fun _ => run_idx' sl26 sz44 (hS.rdRo 0 rfl) hlt_hx129)) ?_
                clear hF; intro a hF
                refine seq_yl hF (wn_none rfl) rfl rfl (yl_fieldAddr hF rfl rfl (fun w => run_fa fo44_1)) ?_
                clear hF; intro a hF
                refine seq_yl hF (wn_none rfl) rfl rfl (yl_loadAt hF rfl rfl ag3 (fun _ h => rd_cell (j := 1) (enc := enc44) (by subst h; exact hS.rdRo 0 rfl) enc44_len hx129 rfl rfl)) ?_
                clear hF; intro a hF
                refine seq_yl hF (wn_none rfl) rfl rfl (yl_move hF rfl rfl) ?_
                clear hF; intro a hF
                refine seq_yl hF (wn_none rfl) rfl rfl (yl_move hF rfl rfl) ?_
                clear hF; intro a hF
                refine seq_yl hF (wn_none rfl) rfl rfl (yl_bin hF rfl rfl rfl rfl (fun _ => run_sub (by refine ⟨?_, ?_⟩ <;> omega))) ?_
                clear hF; intro a hF
                refine seq_yl hF (wn_none rfl) rfl rfl (yl_bin hF rfl rfl rfl rfl (fun _ => run_leq)) ?_
                clear hF; intro a hF
                refine wpList_nil ?_
                refine then_n ?_
                refine c_cond hF rfl (fun hc131 => ?_) (fun hc131 => ?_)
                · first | (replace hc131 := of_decide_eq_true hc131) | (replace hc131 := of_decide_eq_false (bnot_t hc131)) | (subst hc131) | (replace hc131 := bnot_t hc131; subst hc131) | (replace hc131 := bnot_t hc131) | skip
                  refine c_region ?_
                  refine seq_yl hF (wn_none rfl) rfl rfl (yl_move hF rfl rfl) ?_
                  clear hF; intro a hF
                  refine seq_yl hF (wn_none rfl) rfl rfl (yl_move hF rfl rfl) ?_
                  clear hF; intro a hF
                  refine seq_yl hF (wn_none rfl) rfl rfl (yl_move hF rfl rfl) ?_
                  clear hF; intro a hF
                  refine seq_yl hF (wn_none rfl) rfl rfl (yl_indexAddr hF rfl rfl rfl (fun _ => run_idx' sl26 sz44 (hS.rdRo 0 rfl) hlt_hx129)) ?_
                  clear hF; intro a hF
                  refine seq_yl hF (wn_none rfl) rfl rfl (yl_fieldAddr hF rfl rfl (fun w => run_fa0 fo44_0)) ?_
                  clear hF; intro a hF
                  refine seq_yl hF (wn_none rfl) rfl rfl (yl_loadAt hF rfl rfl ag3 (fun _ h => rd_cell0 (enc := enc44) (by subst h; exact hS.rdRo 0 rfl) enc44_len hx129 rfl rfl)) ?_
                  clear hF; intro a hF
                  refine seq_wp (wn_none rfl) (wp_bslice (parts := [(0, .tmp 48)]) (vs := [(0, _)]) (enc := encI) (e := 3) (size := 1) (cs := #[.int .i64 (x129.f0)]) hF hS rfl rfl rfl rfl ([(x129.f0)] : List Int) (fun w => by kernel_rfl) rfl rfl rfl (by decide) ?_)
                  clear hF hS; intro a w v132 hF hS
                  obtain ⟨Av132, cv132, rfl⟩ := hS.form 0 rfl
                  refine seq_wp (wn_none rfl) (wp_app (enc := encI) hF hS rfl rfl rfl rfl rfl 2 rfl sl22 inf3 rfl (by decide) (hS.rdRow 0 rfl) encI_one (by decide) (by first | omega | (simp only [List.length_append, List.length_cons, List.length_nil]; omega) | (simp; omega)) ?_)
                  clear hF hS; intro a w v133 hF hS
                  obtain ⟨Av133, cv133, rfl⟩ := hS.form 2 rfl
                  refine seq_yl hF (wn_none rfl) rfl rfl (yl_assign hF rfl rfl) ?_
                  clear hF; intro a hF
                  refine wpList_nil ?_
                  refine inb_n ?_
                  refine then_n ?_
                  refine c_region ?_
                  refine seq_yl hF (wn_none rfl) rfl rfl (yl_move hF rfl rfl) ?_
                  clear hF; intro a hF
                  refine seq_yl hF (wn_none rfl) rfl rfl (yl_bin hF rfl rfl rfl rfl (fun _ => run_inc (by omega))) ?_
                  clear hF; intro a hF
                  refine seq_yl hF (wn_none rfl) rfl rfl (yl_assign hF rfl rfl) ?_
                  clear hF; intro a hF
                  refine wpList_nil ?_
                  refine then_n ?_
                  rw [show ((expL (L.take k) (t - u)) ++ ([(x129.f0)] : List Int)) = expL (L.take (k + 1)) (t - u) from (exp_snoc hx129 (by omega)).symm] at hF hS
                  exact ⟨_, (by omega), k + 1, Av133, cv133, rfl, (by omega), hF.to [0, 1, 2, 7, 8] rfl, (hS.sub [1, 2] (by decide) (by first | rfl | simp) (by simp))⟩
                · first | (replace hc131 := of_decide_eq_false hc131) | (replace hc131 := of_decide_eq_true (bnot_f hc131)) | (subst hc131) | (replace hc131 := bnot_f hc131; subst hc131) | (replace hc131 := bnot_f hc131) | skip
                  refine wp_skip ?_
                  refine inb_n ?_
                  refine then_n ?_
                  refine c_region ?_
                  refine seq_yl hF (wn_none rfl) rfl rfl (yl_move hF rfl rfl) ?_
                  clear hF; intro a hF
                  refine seq_yl hF (wn_none rfl) rfl rfl (yl_bin hF rfl rfl rfl rfl (fun _ => run_inc (by omega))) ?_
                  clear hF; intro a hF
                  refine seq_yl hF (wn_none rfl) rfl rfl (yl_assign hF rfl rfl) ?_
                  clear hF; intro a hF
                  refine wpList_nil ?_
                  refine then_n ?_
                  rw [show (expL (L.take k) (t - u)) = expL (L.take (k + 1)) (t - u) from (exp_skip hx129 (by omega)).symm] at hF hS
                  exact ⟨_, (by omega), k + 1, AvR, cvR, rfl, (by omega), hF.to [0, 1, 2, 7, 8] rfl, (hS.sub [0, 1] (by decide) (by first | rfl | simp) (by simp))⟩
              · first | (replace hc128 := of_decide_eq_false hc128) | (replace hc128 := of_decide_eq_true (bnot_f hc128)) | (subst hc128) | (replace hc128 := bnot_f hc128; subst hc128) | (replace hc128 := bnot_f hc128) | skip
                refine wp_exit ?_
                refine then_x ?_
                refine then_x ?_
                refine inb_x ?_
                refine then_n ?_
                refine c_seq ?_
                refine c_region ?_
                refine seq_yl hF (wn_none rfl) rfl rfl (yl_move hF rfl rfl) ?_
                clear hF; intro a hF
                refine seq_yl hF (wn_none rfl) rfl rfl (yl_assign hF rfl rfl) ?_
                clear hF; intro a hF
                refine wpList_nil ?_
                refine then_n ?_
                refine wp_ret ?_
                refine ret_t hF rfl rfl ?_
                exact ⟨_, rfl, _, (expL (L.take k) (t - u)), rfl, (exp_ok (by assumption) (by omega) (by omega)).trans (by first | exact exp_brk (by assumption) hx129 (by omega) | rw [List.take_of_length_le (show L.length ≤ k by omega)]), by omega, (hS.sub [1] (by decide) (by first | rfl | simp) (by simp))⟩

set_option maxRecDepth 100000 in
theorem oldest_any (v : Value) (L : List E44) (w0 : World) (hv : Rd w0 2 v (L).length (cells enc44 (L))) (hL : L.length ≤ 1000000) :
    Fn Try.prog 17 #[v] w0 (fun v w' => ∃ (o : Int) (b : Bool), v = .tuple #[.int .i64 o, .bool b] ∧ oldF L = (o, b) ∧ Sat w0 w' []) := by
  obtain ⟨Av, cv, rfl⟩ := Rd.form hv
  refine c_enter (N := 16) (l := [_]) Try.func17 rfl rfl (fun a w hF hS => ?_)
  replace hS := hS.addRo hv
  refine c_seq ?_
  refine c_region ?_
  refine seq_yl hF (wn_none rfl) rfl rfl (yl_assign hF rfl rfl) ?_
  clear hF; intro a hF
  refine seq_yl hF (wn_none rfl) rfl rfl (yl_assign hF rfl rfl) ?_
  clear hF; intro a hF
  refine wpList_nil ?_
  refine then_n ?_
  refine c_seq ?_
  refine c_seq ?_
  refine c_region ?_
  refine seq_yl hF (wn_none rfl) rfl rfl (yl_move hF rfl rfl) ?_
  clear hF; intro a hF
  refine seq_yl hF (wn_none rfl) rfl rfl (yl_len hF rfl rfl (fun _ => run_lenRd sl26 (hS.rdRo 0 rfl))) ?_
  clear hF; intro a hF
  refine seq_yl hF (wn_none rfl) rfl rfl (yl_bin hF rfl rfl rfl rfl (fun _ => run_eql)) ?_
  clear hF; intro a hF
  refine seq_yl hF (wn_none rfl) rfl rfl (yl_move hF rfl rfl) ?_
  clear hF; intro a hF
  refine fr_split hF (fun hc134 hF => ?_) (fun hc134 hF => ?_)
  · first | (replace hc134 := of_decide_eq_true hc134) | (replace hc134 := of_decide_eq_false (bnot_t hc134)) | (subst hc134) | (replace hc134 := bnot_t hc134; subst hc134) | (replace hc134 := bnot_t hc134) | skip
    refine seq_skip hF (wn_f hF rfl rfl rfl rfl) rfl rfl ?_
    clear hF; intro a hF
    refine seq_skip hF (wn_f hF rfl rfl rfl rfl) rfl rfl ?_
    clear hF; intro a hF
    refine seq_skip hF (wn_f hF rfl rfl rfl rfl) rfl rfl ?_
    clear hF; intro a hF
    refine seq_yl hF (wn_none rfl) rfl rfl (yl_pick (u := _) (v := undef) hF rfl rfl (fun _ => rfl) (fun h => by cases h)) ?_
    clear hF; intro a hF
    refine wpList_nil ?_
    refine then_n ?_
    refine c_cond_t hF rfl ?_
    refine c_seq ?_
    refine c_region ?_
    refine seq_yl hF (wn_none rfl) rfl rfl (yl_assign hF rfl rfl) ?_
    clear hF; intro a hF
    refine seq_yl hF (wn_none rfl) rfl rfl (yl_assign hF rfl rfl) ?_
    clear hF; intro a hF
    refine wpList_nil ?_
    refine then_n ?_
    refine wp_ret ?_
    refine then_r ?_
    refine ret_tt hF rfl rfl rfl ?_
    exact ⟨_, rfl, _, _, rfl, by first | exact old_bad (by assumption) | exact old_nil (by omega) | exact old_yes (by assumption) rfl, (hS.sub [] (by decide) (by first | rfl | simp) (by simp))⟩
  · first | (replace hc134 := of_decide_eq_false hc134) | (replace hc134 := of_decide_eq_true (bnot_f hc134)) | (subst hc134) | (replace hc134 := bnot_f hc134; subst hc134) | (replace hc134 := bnot_f hc134) | skip
    refine seq_yl hF (wn_t hF rfl rfl rfl rfl) rfl rfl (yl_move hF rfl rfl) ?_
    clear hF; intro a hF
    refine seq_wp (wn_t hF rfl rfl rfl rfl) (wp_call (vs := [_]) hF rfl rfl rfl rfl cf19 (check1 _ L  _ (hS.rdRo 0 rfl) (by first | omega | (simp; done) | (simp; omega))) ?_)
    clear hF; rintro _ w ⟨rfl, hS1⟩ a hF
    replace hS := hS.callB hS1 rfl; clear hS1
    refine seq_yl hF (wn_t hF rfl rfl rfl rfl) rfl rfl (yl_un hF rfl rfl (fun _ => run_not)) ?_
    clear hF; intro a hF
    refine seq_yl hF (wn_none rfl) rfl rfl (yl_pick (u := _) (v := undef) hF rfl rfl (fun h => by cases h) (fun _ => rfl)) ?_
    clear hF; intro a hF
    refine wpList_nil ?_
    refine then_n ?_
    refine c_cond hF rfl (fun hc135 => ?_) (fun hc135 => ?_)
    · first | (replace hc135 := of_decide_eq_true hc135) | (replace hc135 := of_decide_eq_false (bnot_t hc135)) | (subst hc135) | (replace hc135 := bnot_t hc135; subst hc135) | (replace hc135 := bnot_t hc135) | skip
      refine c_seq ?_
      refine c_region ?_
      refine seq_yl hF (wn_none rfl) rfl rfl (yl_assign hF rfl rfl) ?_
      clear hF; intro a hF
      refine seq_yl hF (wn_none rfl) rfl rfl (yl_assign hF rfl rfl) ?_
      clear hF; intro a hF
      refine wpList_nil ?_
      refine then_n ?_
      refine wp_ret ?_
      refine then_r ?_
      refine ret_tt hF rfl rfl rfl ?_
      exact ⟨_, rfl, _, _, rfl, by first | exact old_bad (by assumption) | exact old_nil (by omega) | exact old_yes (by assumption) rfl, (hS.sub [] (by decide) (by first | rfl | simp) (by simp))⟩
    · first | (replace hc135 := of_decide_eq_false hc135) | (replace hc135 := of_decide_eq_true (bnot_f hc135)) | (subst hc135) | (replace hc135 := bnot_f hc135; subst hc135) | (replace hc135 := bnot_f hc135) | skip
      refine wp_skip ?_
      refine then_n ?_
      refine c_seq ?_
      refine c_region ?_
      refine seq_yl hF (wn_none rfl) rfl rfl (yl_move hF rfl rfl) ?_
      clear hF; intro a hF
      have hlt_hx136 : 0 < (L).length := by first | omega | (simp; done) | (simp; omega)
      obtain ⟨ad137, rfl⟩ := rd_some (hS.rdRo 0 rfl) hlt_hx136
      obtain ⟨x136, hx136⟩ := get_some hlt_hx136
      refine seq_yl hF (wn_none rfl) rfl rfl (yl_indexAddr hF rfl rfl rfl (fun _ => run_idx' (k := 0) sl26 sz44 (hS.rdRo 0 rfl) hlt_hx136)) ?_
      clear hF; intro a hF
      refine seq_yl hF (wn_none rfl) rfl rfl (yl_fieldAddr hF rfl rfl (fun w => run_fa0 fo44_0)) ?_
      clear hF; intro a hF
      refine seq_yl hF (wn_none rfl) rfl rfl (yl_loadAt hF rfl rfl ag3 (fun _ h => rd_cell0 (enc := enc44) (by subst h; exact hS.rdRo 0 rfl) enc44_len hx136 rfl rfl)) ?_
      clear hF; intro a hF
      refine seq_yl hF (wn_none rfl) rfl rfl (yl_assign hF rfl rfl) ?_
      clear hF; intro a hF
      refine seq_yl hF (wn_none rfl) rfl rfl (yl_assign hF rfl rfl) ?_
      clear hF; intro a hF
      refine wpList_nil ?_
      refine then_n ?_
      refine wp_ret ?_
      refine ret_tt hF rfl rfl rfl ?_
      exact ⟨_, rfl, _, _, rfl, by first | exact old_bad (by assumption) | exact old_nil (by omega) | exact old_yes (by assumption) hx136, (hS.sub [] (by decide) (by first | rfl | simp) (by simp))⟩

set_option maxRecDepth 100000 in
theorem oldest2_any (v : Value) (L : List E44) (w0 : World) (hv : Rd w0 2 v (L).length (cells enc44 (L))) (hL : L.length ≤ 1000000) :
    Fn Try.prog 18 #[v] w0 (fun v w' => ∃ (o : Int) (b : Bool), v = .tuple #[.int .i64 o, .bool b] ∧ oldF L = (o, b) ∧ Sat w0 w' []) := by
  obtain ⟨Av, cv, rfl⟩ := Rd.form hv
  refine c_enter (N := 16) (l := [_]) Try.func18 rfl rfl (fun a w hF hS => ?_)
  replace hS := hS.addRo hv
  refine c_seq ?_
  refine c_region ?_
  refine seq_yl hF (wn_none rfl) rfl rfl (yl_assign hF rfl rfl) ?_
  clear hF; intro a hF
  refine seq_yl hF (wn_none rfl) rfl rfl (yl_assign hF rfl rfl) ?_
  clear hF; intro a hF
  refine wpList_nil ?_
  refine then_n ?_
  refine c_seq ?_
  refine c_seq ?_
  refine c_region ?_
  refine seq_yl hF (wn_none rfl) rfl rfl (yl_move hF rfl rfl) ?_
  clear hF; intro a hF
  refine seq_wp (wn_none rfl) (wp_call (vs := [_]) hF rfl rfl rfl rfl cf20 (check2 _ L  _ (hS.rdRo 0 rfl) (by first | omega | (simp; done) | (simp; omega))) ?_)
  clear hF; rintro _ w ⟨rfl, hS1⟩ a hF
  replace hS := hS.callB hS1 rfl; clear hS1
  refine seq_yl hF (wn_none rfl) rfl rfl (yl_un hF rfl rfl (fun _ => run_not)) ?_
  clear hF; intro a hF
  refine seq_yl hF (wn_none rfl) rfl rfl (yl_move hF rfl rfl) ?_
  clear hF; intro a hF
  refine fr_split hF (fun hc138 hF => ?_) (fun hc138 hF => ?_)
  · first | (replace hc138 := of_decide_eq_true hc138) | (replace hc138 := of_decide_eq_false (bnot_t hc138)) | (subst hc138) | (replace hc138 := bnot_t hc138; subst hc138) | (replace hc138 := bnot_t hc138) | skip
    refine seq_skip hF (wn_f hF rfl rfl rfl rfl) rfl rfl ?_
    clear hF; intro a hF
    refine seq_skip hF (wn_f hF rfl rfl rfl rfl) rfl rfl ?_
    clear hF; intro a hF
    refine seq_skip hF (wn_f hF rfl rfl rfl rfl) rfl rfl ?_
    clear hF; intro a hF
    refine seq_yl hF (wn_none rfl) rfl rfl (yl_pick (u := _) (v := undef) hF rfl rfl (fun _ => rfl) (fun h => by cases h)) ?_
    clear hF; intro a hF
    refine wpList_nil ?_
    refine then_n ?_
    refine c_cond_t hF rfl ?_
    refine c_seq ?_
    refine c_region ?_
    refine seq_yl hF (wn_none rfl) rfl rfl (yl_assign hF rfl rfl) ?_
    clear hF; intro a hF
    refine seq_yl hF (wn_none rfl) rfl rfl (yl_assign hF rfl rfl) ?_
    clear hF; intro a hF
    refine wpList_nil ?_
    refine then_n ?_
    refine wp_ret ?_
    refine then_r ?_
    refine ret_tt hF rfl rfl rfl ?_
    exact ⟨_, rfl, _, _, rfl, by first | exact old_bad (by assumption) | exact old_nil (by omega) | exact old_yes (by assumption) rfl, (hS.sub [] (by decide) (by first | rfl | simp) (by simp))⟩
  · first | (replace hc138 := of_decide_eq_false hc138) | (replace hc138 := of_decide_eq_true (bnot_f hc138)) | (subst hc138) | (replace hc138 := bnot_f hc138; subst hc138) | (replace hc138 := bnot_f hc138) | skip
    refine seq_yl hF (wn_t hF rfl rfl rfl rfl) rfl rfl (yl_move hF rfl rfl) ?_
    clear hF; intro a hF
    refine seq_yl hF (wn_t hF rfl rfl rfl rfl) rfl rfl (yl_len hF rfl rfl (fun _ => run_lenRd sl26 (hS.rdRo 0 rfl))) ?_
    clear hF; intro a hF
    refine seq_yl hF (wn_t hF rfl rfl rfl rfl) rfl rfl (yl_bin hF rfl rfl rfl rfl (fun _ => run_eql)) ?_
    clear hF; intro a hF
    refine seq_yl hF (wn_none rfl) rfl rfl (yl_pick (u := _) (v := undef) hF rfl rfl (fun h => by cases h) (fun _ => rfl)) ?_
    clear hF; intro a hF
    refine wpList_nil ?_
    refine then_n ?_
    refine c_cond hF rfl (fun hc139 => ?_) (fun hc139 => ?_)
    · first | (replace hc139 := of_decide_eq_true hc139) | (replace hc139 := of_decide_eq_false (bnot_t hc139)) | (subst hc139) | (replace hc139 := bnot_t hc139; subst hc139) | (replace hc139 := bnot_t hc139) | skip
      refine c_seq ?_
      refine c_region ?_
      refine seq_yl hF (wn_none rfl) rfl rfl (yl_assign hF rfl rfl) ?_
      clear hF; intro a hF
      refine seq_yl hF (wn_none rfl) rfl rfl (yl_assign hF rfl rfl) ?_
      clear hF; intro a hF
      refine wpList_nil ?_
      refine then_n ?_
      refine wp_ret ?_
      refine then_r ?_
      refine ret_tt hF rfl rfl rfl ?_
      exact ⟨_, rfl, _, _, rfl, by first | exact old_bad (by assumption) | exact old_nil (by omega) | exact old_yes (by assumption) rfl, (hS.sub [] (by decide) (by first | rfl | simp) (by simp))⟩
    · first | (replace hc139 := of_decide_eq_false hc139) | (replace hc139 := of_decide_eq_true (bnot_f hc139)) | (subst hc139) | (replace hc139 := bnot_f hc139; subst hc139) | (replace hc139 := bnot_f hc139) | skip
      refine wp_skip ?_
      refine then_n ?_
      refine c_seq ?_
      refine c_region ?_
      refine seq_yl hF (wn_none rfl) rfl rfl (yl_move hF rfl rfl) ?_
      clear hF; intro a hF
      have hlt_hx140 : 0 < (L).length := by first | omega | (simp; done) | (simp; omega)
      obtain ⟨ad141, rfl⟩ := rd_some (hS.rdRo 0 rfl) hlt_hx140
      obtain ⟨x140, hx140⟩ := get_some hlt_hx140
      refine seq_yl hF (wn_none rfl) rfl rfl (yl_indexAddr hF rfl rfl rfl (fun _ => run_idx' (k := 0) sl26 sz44 (hS.rdRo 0 rfl) hlt_hx140)) ?_
      clear hF; intro a hF
      refine seq_yl hF (wn_none rfl) rfl rfl (yl_fieldAddr hF rfl rfl (fun w => run_fa0 fo44_0)) ?_
      clear hF; intro a hF
      refine seq_yl hF (wn_none rfl) rfl rfl (yl_loadAt hF rfl rfl ag3 (fun _ h => rd_cell0 (enc := enc44) (by subst h; exact hS.rdRo 0 rfl) enc44_len hx140 rfl rfl)) ?_
      clear hF; intro a hF
      refine seq_yl hF (wn_none rfl) rfl rfl (yl_assign hF rfl rfl) ?_
      clear hF; intro a hF
      refine seq_yl hF (wn_none rfl) rfl rfl (yl_assign hF rfl rfl) ?_
      clear hF; intro a hF
      refine wpList_nil ?_
      refine then_n ?_
      refine wp_ret ?_
      refine ret_tt hF rfl rfl rfl ?_
      exact ⟨_, rfl, _, _, rfl, by first | exact old_bad (by assumption) | exact old_nil (by omega) | exact old_yes (by assumption) hx140, (hS.sub [] (by decide) (by first | rfl | simp) (by simp))⟩

set_option maxRecDepth 100000 in
theorem sameD_any (v u : Value) (L M : List E44) (w0 : World) (hv : Rd w0 2 v (L).length (cells enc44 (L))) (hu : Rd w0 2 u (M).length (cells enc44 (M))) (hL : L.length ≤ 1000000) :
    Fn Try.prog 21 #[v, u] w0 (fun v w' => v = .bool (decide (L = M)) ∧ Sat w0 w' []) := by
  obtain ⟨Av, cv, rfl⟩ := Rd.form hv
  obtain ⟨Au, cu, rfl⟩ := Rd.form hu
  refine c_enter (N := 26) (l := [_, _]) Try.func21 rfl rfl (fun a w hF hS => ?_)
  replace hS := hS.addRo hu
  replace hS := hS.addRo hv
  refine c_seq ?_
  refine c_region ?_
  refine seq_yl hF (wn_none rfl) rfl rfl (yl_assign hF rfl rfl) ?_
  clear hF; intro a hF
  refine wpList_nil ?_
  refine then_n ?_
  refine c_seq ?_
  refine c_seq ?_
  refine c_region ?_
  refine seq_yl hF (wn_none rfl) rfl rfl (yl_move hF rfl rfl) ?_
  clear hF; intro a hF
  refine seq_yl hF (wn_none rfl) rfl rfl (yl_len hF rfl rfl (fun _ => run_lenRd sl26 (hS.rdRo 0 rfl))) ?_
  clear hF; intro a hF
  refine seq_yl hF (wn_none rfl) rfl rfl (yl_move hF rfl rfl) ?_
  clear hF; intro a hF
  refine seq_yl hF (wn_none rfl) rfl rfl (yl_len hF rfl rfl (fun _ => run_lenRd sl26 (hS.rdRo 1 rfl))) ?_
  clear hF; intro a hF
  refine seq_yl hF (wn_none rfl) rfl rfl (yl_bin hF rfl rfl rfl rfl (fun _ => run_neq)) ?_
  clear hF; intro a hF
  refine wpList_nil ?_
  refine then_n ?_
  refine c_cond hF rfl (fun hc142 => ?_) (fun hc142 => ?_)
  · first | (replace hc142 := of_decide_eq_true hc142) | (replace hc142 := of_decide_eq_false (bnot_t hc142)) | (subst hc142) | (replace hc142 := bnot_t hc142; subst hc142) | (replace hc142 := bnot_t hc142) | skip
    refine c_seq ?_
    refine c_region ?_
    refine seq_yl hF (wn_none rfl) rfl rfl (yl_assign hF rfl rfl) ?_
    clear hF; intro a hF
    refine wpList_nil ?_
    refine then_n ?_
    refine wp_ret ?_
    refine then_r ?_
    refine ret_t hF rfl rfl ?_
    exact ⟨_, rfl, congrArg Value.bool (dec_f (by rintro rfl; omega)), (hS.sub [] (by decide) (by first | rfl | simp) (by simp))⟩
  · first | (replace hc142 := of_decide_eq_false hc142) | (replace hc142 := of_decide_eq_true (bnot_f hc142)) | (subst hc142) | (replace hc142 := bnot_f hc142; subst hc142) | (replace hc142 := bnot_f hc142) | skip
    refine wp_skip ?_
    refine then_n ?_
    refine c_seq ?_
    refine c_seq ?_
    refine c_region ?_
    refine seq_yl hF (wn_none rfl) rfl rfl (yl_assign hF rfl rfl) ?_
    clear hF; intro a hF
    refine wpList_nil ?_
    refine then_n ?_
    refine wp_block ?_
    refine c_loop (fun m a w => ∃ (k : Nat), m = L.length - k ∧ (k ≤ L.length ∧ L.take k = M.take k) ∧ Fr 26 a [(0, .slice Av (L).length cv), (1, .slice Au (M).length cu), (5, .int .i64 ((k : Nat) : Int))] ∧ Sat w0 w (.ro 2 (.slice Av (L).length cv) (L).length (cells enc44 (L)) :: .ro 2 (.slice Au (M).length cu) (M).length (cells enc44 (M)) :: [])) (L.length - 0) ?_ ?_
    · exact ⟨0, rfl, ⟨Nat.zero_le _, by simp⟩, hF.to [0, 1, 5] rfl, (hS.sub [0, 1] (by decide) (by first | rfl | simp) (by simp))⟩
    · clear hF hS; try clear hSS
      clear a w; rintro m a w ⟨k, rfl, hinv, hF, hS⟩
      have hk := hinv.1
      refine c_seq ?_
      refine c_seq ?_
      refine c_region ?_
      refine seq_yl hF (wn_none rfl) rfl rfl (yl_move hF rfl rfl) ?_
      clear hF; intro a hF
      refine seq_yl hF (wn_none rfl) rfl rfl (yl_move hF rfl rfl) ?_
      clear hF; intro a hF
      refine seq_yl hF (wn_none rfl) rfl rfl (yl_len hF rfl rfl (fun _ => run_lenRd sl26 (hS.rdRo 0 rfl))) ?_
      clear hF; intro a hF
      refine seq_yl hF (wn_none rfl) rfl rfl (yl_bin hF rfl rfl rfl rfl (fun _ => run_lss)) ?_
      clear hF; intro a hF
      refine wpList_nil ?_
      refine then_n ?_
      refine c_cond hF rfl (fun hc143 => ?_) (fun hc143 => ?_)
      · first | (replace hc143 := of_decide_eq_true hc143) | (replace hc143 := of_decide_eq_false (bnot_t hc143)) | (subst hc143) | (replace hc143 := bnot_t hc143; subst hc143) | (replace hc143 := bnot_t hc143) | skip
        refine wp_skip ?_
        refine then_n ?_
        refine c_seq ?_
        refine wp_block ?_
        refine c_seq ?_
        refine ha_startS hS [0, 1] 9 (by kernel_rfl) ?_; clear hS; intro w hS
        have hSS := hS.sub [0, 1] (by decide) rfl (by simp)
        refine ha_y 0 hF rfl rfl rfl (wn_none rfl) (.inr hSS) (yl_move hF rfl rfl) ?_
        clear hF; intro a hF
        refine ha_y 1 hF rfl rfl rfl (wn_none rfl) (.inr hSS) (yl_move hF rfl rfl) ?_
        clear hF; intro a hF
        have hlt_hx144 : k < (L).length := by first | omega | (simp; done) | (simp; omega)
        obtain ⟨ad145, rfl⟩ := rd_some (hS.rdRo 0 rfl) hlt_hx144
        obtain ⟨x144, hx144⟩ := get_some hlt_hx144
        refine ha_y 2 hF rfl rfl rfl (wn_none rfl) (.inr hSS) (yl_indexAddr hF rfl rfl rfl (fun _ => run_idx' sl26 sz44 (hS.rdRo 0 rfl) hlt_hx144)) ?_
        clear hF; intro a hF
        refine ha_y 4 hF rfl rfl rfl (wn_none rfl) (.inr hSS) (yl_move hF rfl rfl) ?_
        clear hF; intro a hF
        refine ha_y 5 hF rfl rfl rfl (wn_none rfl) (.inr hSS) (yl_move hF rfl rfl) ?_
        clear hF; intro a hF
        have hlt_hx146 : k < (M).length := by first | omega | (simp; done) | (simp; omega)
        obtain ⟨ad147, rfl⟩ := rd_some (hS.rdRo 1 rfl) hlt_hx146
        obtain ⟨x146, hx146⟩ := get_some hlt_hx146
        refine ha_y 6 hF rfl rfl rfl (wn_none rfl) (.inr hSS) (yl_indexAddr hF rfl rfl rfl (fun _ => run_idx' sl26 sz44 (hS.rdRo 1 rfl) hlt_hx146)) ?_
        clear hF; intro a hF
        refine ha_l 3 hF rfl rfl rfl (wn_none rfl) hSS (yl_loadEl (rs := [.int .i64 (x144.f0), .int .i64 (x144.f1)]) hF rfl rfl ag44 sz44 rfl (fun _ h => rd_cells (enc := enc44) (Sat.rdRo h 0 rfl) enc44_len hx144)) ?_
        clear hF; intro a hF
        refine ha_l 7 hF rfl rfl rfl (wn_none rfl) hSS (yl_loadEl (rs := [.int .i64 (x146.f0), .int .i64 (x146.f1)]) hF rfl rfl ag44 sz44 rfl (fun _ h => rd_cells (enc := enc44) (Sat.rdRo h 1 rfl) enc44_len hx146)) ?_
        clear hF; intro a hF
        refine ha_y 8 hF rfl rfl rfl (wn_none rfl) (.inr hSS) (yl_binA hF rfl rfl rfl (fun w => run_eqGuard_agg w _ _ _ _ _ _ hm44) (fun w => nes44 _ _ _ _ w)) ?_
        clear hF; intro a hF
        refine ha_done (by kernel_rfl) ?_ _
        refine then_n ?_
        refine c_cond hF rfl (fun hc148 => ?_) (fun hc148 => ?_)
        · first | (replace hc148 := of_decide_eq_true hc148) | (replace hc148 := of_decide_eq_false (bnot_t hc148)) | (subst hc148) | (replace hc148 := bnot_t hc148; subst hc148) | (replace hc148 := bnot_t hc148) | skip
          refine c_seq ?_
          refine c_region ?_
          refine seq_yl hF (wn_none rfl) rfl rfl (yl_assign hF rfl rfl) ?_
          clear hF; intro a hF
          refine wpList_nil ?_
          refine then_n ?_
          refine wp_ret ?_
          refine inb_r ?_
          refine then_r ?_
          refine then_r ?_
          refine inb_r ?_
          refine then_r ?_
          refine ret_t hF rfl rfl ?_
          exact ⟨_, rfl, congrArg Value.bool (dec_f (by rintro rfl; have h9 := hx146; rw [hx144] at h9; injection h9 with h9; subst h9; rename (¬ (_ ∧ _)) => hne; simp at hne)), (hS.sub [] (by decide) (by first | rfl | simp) (by simp))⟩
        · first | (replace hc148 := of_decide_eq_false hc148) | (replace hc148 := of_decide_eq_true (bnot_f hc148)) | (subst hc148) | (replace hc148 := bnot_f hc148; subst hc148) | (replace hc148 := bnot_f hc148) | skip
          refine wp_skip ?_
          refine inb_n ?_
          refine then_n ?_
          refine c_region ?_
          refine seq_yl hF (wn_none rfl) rfl rfl (yl_move hF rfl rfl) ?_
          clear hF; intro a hF
          refine seq_yl hF (wn_none rfl) rfl rfl (yl_bin hF rfl rfl rfl rfl (fun _ => run_inc (by omega))) ?_
          clear hF; intro a hF
          refine seq_yl hF (wn_none rfl) rfl rfl (yl_assign hF rfl rfl) ?_
          clear hF; intro a hF
          refine wpList_nil ?_
          refine then_n ?_
          exact ⟨_, (by omega), k + 1, rfl, ⟨by omega, take_eq_step hx144 hx146 (E44_ext (Decidable.not_not.1 (by assumption))) hinv.2⟩, hF.to [0, 1, 5] rfl, (hS.sub [0, 1] (by decide) (by first | rfl | simp) (by simp))⟩
      · first | (replace hc143 := of_decide_eq_false hc143) | (replace hc143 := of_decide_eq_true (bnot_f hc143)) | (subst hc143) | (replace hc143 := bnot_f hc143; subst hc143) | (replace hc143 := bnot_f hc143) | skip
        refine wp_exit ?_
        refine then_x ?_
        refine then_x ?_
        refine inb_x ?_
        refine then_n ?_
        refine c_seq ?_
        refine c_region ?_
        refine seq_yl hF (wn_none rfl) rfl rfl (yl_assign hF rfl rfl) ?_
        clear hF; intro a hF
        refine wpList_nil ?_
        refine then_n ?_
        refine wp_ret ?_
        refine ret_t hF rfl rfl ?_
        exact ⟨_, rfl, congrArg Value.bool (dec_t (by have h9 := hinv.2; rwa [List.take_of_length_le (by omega), List.take_of_length_le (by omega)] at h9)), (hS.sub [] (by decide) (by first | rfl | simp) (by simp))⟩

theorem add2_ro (w0 w : World) (Ht : List Chunk) (v0 : Value) (L : List E44) (t u : Int) (hS : Sat w0 w (.ro 2 v0 (L).length (cells enc44 (L)) :: Ht)) (hL : L.length ≤ 1000000) :
    Fn Try.prog 10 #[v0, .int .i64 t, .int .i64 u] w (fun v w' => ∃ (v1 : Value) (L1 : List E44) (e : Int), v = .tuple #[v1, .int .i64 e] ∧ addF L t u = (L1, e) ∧ Sat w0 w' (.ro 2 v1 (L1).length (cells enc44 (L1)) :: .ro 2 v0 (L).length (cells enc44 (L)) :: Ht)) := by
  refine Calls.mono (add2_any v0 L t u w (hS.rdRo 0 rfl) hL) fun e w' he => ?_
  obtain ⟨v, rfl, v1, L1, e, rfl, hp, h | ⟨rfl, rfl, h⟩⟩ := he
  · exact ⟨_, rfl, _, _, _, rfl, hp, (hS.callB h rfl).toRo 0 rfl⟩
  · exact ⟨_, rfl, _, _, _, rfl, hp, (hS.callB h rfl).dupRo 0 rfl⟩

theorem remove2_ro (w0 w : World) (Ht : List Chunk) (v0 : Value) (L : List E44) (t : Int) (hS : Sat w0 w (.ro 2 v0 (L).length (cells enc44 (L)) :: Ht)) (hL : L.length ≤ 1000000) :
    Fn Try.prog 12 #[v0, .int .i64 t] w (fun v w' => ∃ (v1 : Value) (L1 : List E44) (e : Int), v = .tuple #[v1, .int .i64 e] ∧ remF L t = (L1, e) ∧ Sat w0 w' (.ro 2 v1 (L1).length (cells enc44 (L1)) :: .ro 2 v0 (L).length (cells enc44 (L)) :: Ht)) := by
  refine Calls.mono (remove2_any v0 L t w (hS.rdRo 0 rfl) hL) fun e w' he => ?_
  obtain ⟨v, rfl, v1, L1, e, rfl, hp, h | ⟨rfl, rfl, h⟩⟩ := he
  · exact ⟨_, rfl, _, _, _, rfl, hp, (hS.callB h rfl).toRo 0 rfl⟩
  · exact ⟨_, rfl, _, _, _, rfl, hp, (hS.callB h rfl).dupRo 0 rfl⟩

theorem again2_ro (w0 w : World) (Ht : List Chunk) (v0 : Value) (L : List E44) (t u : Int) (hS : Sat w0 w (.ro 2 v0 (L).length (cells enc44 (L)) :: Ht)) (hL : L.length ≤ 1000000) :
    Fn Try.prog 14 #[v0, .int .i64 t, .int .i64 u] w (fun v w' => ∃ (v1 : Value) (L1 : List E44) (e : Int), v = .tuple #[v1, .int .i64 e] ∧ againF L t u = (L1, e) ∧ Sat w0 w' (.ro 2 v1 (L1).length (cells enc44 (L1)) :: .ro 2 v0 (L).length (cells enc44 (L)) :: Ht)) := by
  refine Calls.mono (again2_any v0 L t u w (hS.rdRo 0 rfl) hL) fun e w' he => ?_
  obtain ⟨v, rfl, v1, L1, e, rfl, hp, h | ⟨rfl, rfl, h⟩⟩ := he
  · exact ⟨_, rfl, _, _, _, rfl, hp, (hS.callB h rfl).toRo 0 rfl⟩
  · exact ⟨_, rfl, _, _, _, rfl, hp, (hS.callB h rfl).dupRo 0 rfl⟩

end Go.Proofs.Ytffaminjbcfojaa

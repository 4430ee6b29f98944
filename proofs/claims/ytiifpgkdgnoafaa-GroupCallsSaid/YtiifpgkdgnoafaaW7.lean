/- walks, printed by wip/gen -/
import Derived.Test.YtiifpgkdgnoafaaW4
namespace Go.Proofs.Ytiifpgkdgnoafaa
open Go.RowKit
set_option linter.unusedVariables false
set_option linter.unusedSimpArgs false

theorem clone_any (v : Value) (L : List Int) (w0 : World) (h : Rd w0 1 v (L).length (cells encI (L))) (hn : L.length ≤ 1000000) :
    Fn Try.prog 32 #[v] w0 (fun v w' => ∃ v1, v = v1 ∧ Sat w0 w' [.row 3 1 v1 (L).length (cells encI (L))]) := by
  obtain ⟨Av, cv, rfl⟩ := Rd.form h
  refine c_enter (N := 8) (l := [_]) Try.func32 rfl rfl (fun a w hF hS => ?_)
  replace hS := hS.addRo h
  refine c_seq ?_
  refine c_region ?_
  refine seq_yl hF (wn_none rfl) rfl rfl (yl_assign hF rfl rfl) ?_
  clear hF; intro a hF
  refine wpList_nil ?_
  refine then_n ?_
  refine c_seq ?_
  refine c_seq ?_
  refine c_region ?_
  refine seq_yl hF (wn_none rfl) rfl rfl (yl_move hF rfl rfl) ?_
  clear hF; intro a hF
  refine seq_yl hF (wn_none rfl) rfl rfl (yl_bin hF rfl rfl rfl rfl (fun _ => run_slnil sl22)) ?_
  clear hF; intro a hF
  refine wpList_nil ?_
  refine then_n ?_
  refine c_cond hF rfl (fun hc128 => ?_) (fun hc128 => ?_)
  · first | (replace hc128 := of_decide_eq_true hc128) | (replace hc128 := of_decide_eq_false (bnot_t hc128)) | (subst hc128) | (replace hc128 := bnot_t hc128; subst hc128) | (replace hc128 := bnot_t hc128) | skip
    refine c_seq ?_
    refine c_region ?_
    refine seq_yl hF (wn_none rfl) rfl rfl (yl_assign hF rfl rfl) ?_
    clear hF; intro a hF
    refine wpList_nil ?_
    refine then_n ?_
    refine wp_ret ?_
    refine then_r ?_
    refine ret_t hF rfl rfl ?_
    obtain rfl := rd_none h (by assumption)
    replace hS := hS.addNil 3 1
    exact ⟨_, rfl, _, rfl, (hS.sub [0] (by decide) (by first | rfl | simp) (by simp))⟩
  · first | (replace hc128 := of_decide_eq_false hc128) | (replace hc128 := of_decide_eq_true (bnot_f hc128)) | (subst hc128) | (replace hc128 := bnot_f hc128; subst hc128) | (replace hc128 := bnot_f hc128) | skip
    refine wp_skip ?_
    refine then_n ?_
    refine c_seq ?_
    refine c_region ?_
    refine seq_wp (wn_none rfl) (wp_bslice (parts := []) (vs := []) (enc := encI) (e := 3) (size := 1) (cs := #[]) hF hS rfl rfl rfl rfl ([] : List Int) (fun w => by kernel_rfl) rfl rfl rfl (by decide) ?_)
    clear hF hS; intro a w v130 hF hS
    obtain ⟨Av130, cv130, rfl⟩ := hS.form 0 rfl
    refine seq_yl hF (wn_none rfl) rfl rfl (yl_move hF rfl rfl) ?_
    clear hF; intro a hF
    refine seq_wp (wn_none rfl) (wp_app (enc := encI) hF hS rfl rfl rfl rfl rfl 0 rfl sl22 inf3 rfl (by decide) (hS.rdRo 1 rfl) encI_one (by decide) (by first | omega | (simp only [List.length_append, List.length_cons, List.length_nil]; omega)) ?_)
    clear hF hS; intro a w v131 hF hS
    obtain ⟨Av131, cv131, rfl⟩ := hS.form 0 rfl
    refine seq_yl hF (wn_none rfl) rfl rfl (yl_assign hF rfl rfl) ?_
    clear hF; intro a hF
    refine wpList_nil ?_
    refine then_n ?_
    refine wp_ret ?_
    refine ret_t hF rfl rfl ?_
    exact ⟨_, rfl, _, rfl, (hS.sub [0] (by decide) (by first | rfl | simp) (by simp))⟩

theorem divide_any (v : Value) (L : List E36) (n : Int) (hn63 : n ≤ 9223372036854775807) (w0 : World) (hv : Rd w0 3 v (L).length (cells enc36 (L))) (hL : L.length ≤ 1000000) :
    Fn Try.prog 15 #[v, .int .i64 n] w0 (fun v w' => ∃ v1, v = v1 ∧ Sat w0 w' [.row 3 1 v1 (divF L n).length (cells encI (divF L n))]) := by
  obtain ⟨Av, cv, rfl⟩ := Rd.form hv
  refine c_enter (N := 35) (l := [_, _]) Try.func15 rfl rfl (fun a w hF hS => ?_)
  replace hS := hS.addRo hv
  refine c_seq ?_
  refine c_region ?_
  refine seq_yl hF (wn_none rfl) rfl rfl (yl_assign hF rfl rfl) ?_
  clear hF; intro a hF
  refine wpList_nil ?_
  refine then_n ?_
  refine c_seq ?_
  refine c_seq ?_
  refine c_region ?_
  refine seq_yl hF (wn_none rfl) rfl rfl (yl_move hF rfl rfl) ?_
  clear hF; intro a hF
  refine seq_wp (wn_none rfl) (wp_call (vs := [_]) hF rfl rfl rfl rfl cf19 (check_any _ L _ (hS.rdRo 0 rfl) (by first | omega | (simp; done) | (simp; omega) | (rw [chF_len]; first | omega | (simp; done) | (simp; omega)) | (rw [unF_len]; first | omega | (simp; done) | (simp; omega)))) ?_)
  clear hF; rintro _ w ⟨rfl, hS1⟩ a hF
  replace hS := hS.callB hS1 rfl; clear hS1
  refine seq_yl hF (wn_none rfl) rfl rfl (yl_un hF rfl rfl (fun _ => run_not)) ?_
  clear hF; intro a hF
  refine seq_yl hF (wn_none rfl) rfl rfl (yl_move hF rfl rfl) ?_
  clear hF; intro a hF
  refine fr_split hF (fun hc132 hF => ?_) (fun hc132 hF => ?_)
  · first | (replace hc132 := of_decide_eq_true hc132) | (replace hc132 := of_decide_eq_false (bnot_t hc132)) | (subst hc132) | (replace hc132 := bnot_t hc132; subst hc132) | (replace hc132 := bnot_t hc132) | skip
    refine seq_skip hF (wn_f hF rfl rfl rfl rfl) rfl rfl ?_
    clear hF; intro a hF
    refine seq_skip hF (wn_f hF rfl rfl rfl rfl) rfl rfl ?_
    clear hF; intro a hF
    refine seq_yl hF (wn_none rfl) rfl rfl (yl_pick (u := _) (v := undef) hF rfl rfl (fun _ => rfl) (fun h => by cases h)) ?_
    clear hF; intro a hF
    refine wpList_nil ?_
    refine then_n ?_
    refine c_cond_t hF rfl ?_
    refine c_seq ?_
    refine c_region ?_
    refine seq_yl hF (wn_none rfl) rfl rfl (yl_assign hF rfl rfl) ?_
    clear hF; intro a hF
    refine wpList_nil ?_
    refine then_n ?_
    refine wp_ret ?_
    refine then_r ?_
    refine ret_t hF rfl rfl ?_
    have hd : divF L n = [] := by unfold divF; rw [if_neg]; rintro ⟨h8, h9⟩; first | omega | simp_all
    rw [hd]
    replace hS := hS.addNil 3 1
    exact ⟨_, rfl, _, rfl, (hS.sub [0] (by decide) (by first | rfl | simp) (by simp))⟩
  · first | (replace hc132 := of_decide_eq_false hc132) | (replace hc132 := of_decide_eq_true (bnot_f hc132)) | (subst hc132) | (replace hc132 := bnot_f hc132; subst hc132) | (replace hc132 := bnot_f hc132) | skip
    refine seq_yl hF (wn_t hF rfl rfl rfl rfl) rfl rfl (yl_move hF rfl rfl) ?_
    clear hF; intro a hF
    refine seq_yl hF (wn_t hF rfl rfl rfl rfl) rfl rfl (yl_bin hF rfl rfl rfl rfl (fun _ => run_lss)) ?_
    clear hF; intro a hF
    refine seq_yl hF (wn_none rfl) rfl rfl (yl_pick (u := _) (v := undef) hF rfl rfl (fun h => by cases h) (fun _ => rfl)) ?_
    clear hF; intro a hF
    refine wpList_nil ?_
    refine then_n ?_
    refine c_cond hF rfl (fun hc134 => ?_) (fun hc134 => ?_)
    · first | (replace hc134 := of_decide_eq_true hc134) | (replace hc134 := of_decide_eq_false (bnot_t hc134)) | (subst hc134) | (replace hc134 := bnot_t hc134; subst hc134) | (replace hc134 := bnot_t hc134) | skip
      refine c_seq ?_
      refine c_region ?_
      refine seq_yl hF (wn_none rfl) rfl rfl (yl_assign hF rfl rfl) ?_
      clear hF; intro a hF
      refine wpList_nil ?_
      refine then_n ?_
      refine wp_ret ?_
      refine then_r ?_
      refine ret_t hF rfl rfl ?_
      have hd : divF L n = [] := by unfold divF; rw [if_neg]; rintro ⟨h8, h9⟩; first | omega | simp_all
      rw [hd]
      replace hS := hS.addNil 3 1
      exact ⟨_, rfl, _, rfl, (hS.sub [0] (by decide) (by first | rfl | simp) (by simp))⟩
    · first | (replace hc134 := of_decide_eq_false hc134) | (replace hc134 := of_decide_eq_true (bnot_f hc134)) | (subst hc134) | (replace hc134 := bnot_f hc134; subst hc134) | (replace hc134 := bnot_f hc134) | skip
      refine wp_skip ?_
      refine then_n ?_
      refine c_seq ?_
      refine c_region ?_
      refine seq_wp (wn_none rfl) (wp_alloc (cs := #[_, _, _, _]) hF hS rfl rfl rfl zr49 rfl ?_)
      clear hF hS; intro a w g136 hF hS
      refine wpList_nil ?_
      refine then_n ?_
      refine c_seq ?_
      refine wp_block ?_
      obtain ⟨hmem, hl1, hl4⟩ := chkG_inv (by assumption)
      refine c_loop (fun m a w => ∃ (nn b0 b1 b2 b3 : Int), m = nn.toNat ∧ ((0 ≤ nn ∧ nn ≤ 9223372036854775807) ∧ (0 ≤ b0 ∧ b0 ≤ 64) ∧ (0 ≤ b1 ∧ b1 ≤ 64) ∧ (0 ≤ b2 ∧ b2 ≤ 64) ∧ (0 ≤ b3 ∧ b3 ≤ 64) ∧ divRun L n.toNat [0, 0, 0, 0] = divRun L nn.toNat [b0, b1, b2, b3]) ∧ Fr 35 a [(0, .slice Av (L).length cv), (1, .int .i64 (nn)), (5, .pointer (some ⟨g136, 0, none⟩))] ∧ Sat w0 w (.ro 3 (.slice Av (L).length cv) (L).length (cells enc36 (L)) :: .box g136 49 #[.int .i64 (b0), .int .i64 (b1), .int .i64 (b2), .int .i64 (b3)] :: [])) (n.toNat) ?_ ?_
      · exact ⟨n, 0, 0, 0, 0, rfl, ⟨by omega, by omega, by omega, by omega, by omega, rfl⟩, hF.to [0, 1, 5] rfl, (hS.sub [1, 0] (by decide) (by first | rfl | simp) (by simp))⟩
      · clear hF hS; try clear hSS
        clear a w; rintro m a w ⟨nn, b0, b1, b2, b3, rfl, hinv, hF, hS⟩
        obtain ⟨hnn, hq0, hq1, hq2, hq3, hrun⟩ := hinv
        refine c_seq ?_
        refine c_seq ?_
        refine c_region ?_
        refine seq_yl hF (wn_none rfl) rfl rfl (yl_move hF rfl rfl) ?_
        clear hF; intro a hF
        refine seq_yl hF (wn_none rfl) rfl rfl (yl_bin hF rfl rfl rfl rfl (fun _ => run_gtr)) ?_
        clear hF; intro a hF
        refine wpList_nil ?_
        refine then_n ?_
        refine c_cond hF rfl (fun hc137 => ?_) (fun hc137 => ?_)
        · first | (replace hc137 := of_decide_eq_true hc137) | (replace hc137 := of_decide_eq_false (bnot_t hc137)) | (subst hc137) | (replace hc137 := bnot_t hc137; subst hc137) | (replace hc137 := bnot_t hc137) | skip
          refine wp_skip ?_
          refine then_n ?_
          refine c_seq ?_
          refine wp_block ?_
          refine c_seq ?_
          refine c_region ?_
          refine seq_yl hF (wn_none rfl) rfl rfl (yl_loadK (rs := [_, _, _, _]) (fun _ h => h ▸ hS) hF rfl rfl 1 rfl ag49 sz49 rfl rfl) ?_
          clear hF; intro a hF
          refine seq_yl hF (wn_none rfl) rfl rfl (yl_move hF rfl rfl) ?_
          clear hF; intro a hF
          refine seq_wp (wn_none rfl) (wp_call (vs := [_, _, _]) hF rfl rfl rfl rfl cf30 (moreEx_any _ _ _ _ _ L _ (hS.rdRo 0 rfl) hmem (by omega) (by omega)) ?_)
          clear hF; rintro _ w ⟨c138, c139, c140, c141, rfl, hm142, hS1⟩ a hF
          replace hS := hS.callB hS1 rfl; clear hS1
          have hbhm142 := more_in (h := exF) (S := [(b0), (b1), (b2), (b3)]) (fun x hx => exF_in (hmem x hx)) (by intro e he; simp at he; omega)
          rw [← hm142] at hbhm142
          have hbc138 := hbhm142 c138 (by simp)
          have hbc139 := hbhm142 c139 (by simp)
          have hbc140 := hbhm142 c140 (by simp)
          have hbc141 := hbhm142 c141 (by simp)
          refine seq_wp (wn_none rfl) (wp_alloc (cs := #[_, _, _, _]) hF hS rfl rfl rfl zr49 rfl ?_)
          clear hF hS; intro a w g143 hF hS
          refine seq_wp (wn_none rfl) (wp_store (cs' := #[_, _, _, _]) hF hS rfl rfl rfl rfl 0 rfl sz49 (by simp [Value.cells, Value.oneCell']) (by simp [Value.cells]) rfl ?_)
          clear hF hS; intro a w hF hS
          refine wpList_nil ?_
          refine then_n ?_
          refine c_seq ?_
          refine c_seq ?_
          refine c_region ?_
          refine seq_yl hF (wn_none rfl) rfl rfl (yl_loadK (rs := [_, _, _, _]) (fun _ h => h ▸ hS) hF rfl rfl 0 rfl ag49 sz49 rfl rfl) ?_
          clear hF; intro a hF
          refine seq_yl hF (wn_none rfl) rfl rfl (yl_loadK (rs := [_, _, _, _]) (fun _ h => h ▸ hS) hF rfl rfl 2 rfl ag49 sz49 rfl rfl) ?_
          clear hF; intro a hF
          refine seq_yl hF (wn_none rfl) rfl rfl (yl_binA hF rfl rfl rfl (fun w => run_eqGuard_agg w _ _ _ _ _ _ hm49) (fun w => eqs49 _ _ _ _ _ _ _ _ w)) ?_
          clear hF; intro a hF
          refine wpList_nil ?_
          refine then_n ?_
          refine c_cond hF rfl (fun hc144 => ?_) (fun hc144 => ?_)
          · first | (replace hc144 := of_decide_eq_true hc144) | (replace hc144 := of_decide_eq_false (bnot_t hc144)) | (subst hc144) | (replace hc144 := bnot_t hc144; subst hc144) | (replace hc144 := bnot_t hc144) | skip
            refine c_region ?_
            refine seq_yl hF (wn_none rfl) rfl rfl (yl_loadK (rs := [_, _, _, _]) (fun _ h => h ▸ hS) hF rfl rfl 2 rfl ag49 sz49 rfl rfl) ?_
            clear hF; intro a hF
            refine seq_yl hF (wn_none rfl) rfl rfl (yl_move hF rfl rfl) ?_
            clear hF; intro a hF
            refine seq_wp (wn_none rfl) (wp_call (vs := [_, _, _]) hF rfl rfl rfl rfl cf30 (moreCh_any _ _ _ _ _ L _ (hS.rdRo 1 rfl) hmem (by omega) (by omega)) ?_)
            clear hF; rintro _ w ⟨c145, c146, c147, c148, rfl, hm149, hS1⟩ a hF
            replace hS := hS.callB hS1 rfl; clear hS1
            have hbhm149 := more_in (h := E36.f2) (S := [(b0), (b1), (b2), (b3)]) (fun x hx => f2_in (hmem x hx)) (by intro e he; simp at he; omega)
            rw [← hm149] at hbhm149
            have hbc145 := hbhm149 c145 (by simp)
            have hbc146 := hbhm149 c146 (by simp)
            have hbc147 := hbhm149 c147 (by simp)
            have hbc148 := hbhm149 c148 (by simp)
            refine seq_wp (wn_none rfl) (wp_store (cs' := #[_, _, _, _]) hF hS rfl rfl rfl rfl 0 rfl sz49 (by simp [Value.cells, Value.oneCell']) (by simp [Value.cells]) rfl ?_)
            clear hF hS; intro a w hF hS
            refine wpList_nil ?_
            refine then_n ?_
            refine c_seq ?_
            refine c_seq ?_
            refine c_region ?_
            refine seq_yl hF (wn_none rfl) rfl rfl (yl_loadK (rs := [_, _, _, _]) (fun _ h => h ▸ hS) hF rfl rfl 0 rfl ag49 sz49 rfl rfl) ?_
            clear hF; intro a hF
            refine seq_yl hF (wn_none rfl) rfl rfl (yl_loadK (rs := [_, _, _, _]) (fun _ h => h ▸ hS) hF rfl rfl 2 rfl ag49 sz49 rfl rfl) ?_
            clear hF; intro a hF
            refine seq_yl hF (wn_none rfl) rfl rfl (yl_binA hF rfl rfl rfl (fun w => run_eqGuard_agg w _ _ _ _ _ _ hm49) (fun w => eqs49 _ _ _ _ _ _ _ _ w)) ?_
            clear hF; intro a hF
            refine wpList_nil ?_
            refine then_n ?_
            refine c_cond hF rfl (fun hc150 => ?_) (fun hc150 => ?_)
            · first | (replace hc150 := of_decide_eq_true hc150) | (replace hc150 := of_decide_eq_false (bnot_t hc150)) | (subst hc150) | (replace hc150 := bnot_t hc150; subst hc150) | (replace hc150 := bnot_t hc150) | skip
              refine wp_exit ?_
              refine then_x ?_
              refine inb_o (by decide) ?_
              refine then_x ?_
              refine then_x ?_
              refine inb_x ?_
              refine then_n ?_
              refine c_seq ?_
              refine c_region ?_
              refine seq_yl hF (wn_none rfl) rfl rfl (yl_move hF rfl rfl) ?_
              clear hF; intro a hF
              refine seq_yl hF (wn_none rfl) rfl rfl (yl_len hF rfl rfl (fun _ => run_lenRd sl26 (hS.rdRo 1 rfl))) ?_
              clear hF; intro a hF
              refine seq_yl hF (wn_none rfl) rfl rfl (yl_sliceArrH hF rfl rfl rfl ar49 sz3 (by omega)) ?_
              clear hF; intro a hF
              refine seq_wp (wn_none rfl) (wp_call (vs := [_]) hF rfl rfl rfl rfl cf32 (clone_any _ ([(b0), (b1), (b2), (b3)].take (L).length) _ (rd_box hS 2 rfl [(b0), (b1), (b2), (b3)] rfl (by simp; omega) rfl (by decide)) (by simp; omega)) ?_)
              clear hF; rintro _ w ⟨v151, rfl, hS1⟩ a hF
              replace hS := hS.callB hS1 rfl; clear hS1
              obtain ⟨Av151, cv151, rfl⟩ := hS.form 0 rfl
              refine seq_yl hF (wn_none rfl) rfl rfl (yl_assign hF rfl rfl) ?_
              clear hF; intro a hF
              refine wpList_nil ?_
              refine then_n ?_
              refine wp_ret ?_
              refine ret_t hF rfl rfl ?_
              have hd : divF L n = [b0, b1, b2, b3].take L.length := by unfold divF; rw [if_pos ⟨by assumption, by omega⟩, hrun]; first | (rw [show nn.toNat = 0 by omega]; rfl) | (rw [div_fix (div_stepA hm142 (by intro e; exact absurd (by simpa using e) (by assumption)))]) | (rw [div_fix ((div_stepB hm142 (four_eq (by assumption)) hm149).trans (four_eq (by assumption)))])
              rw [hd]
              exact ⟨_, rfl, _, rfl, (hS.sub [0] (by decide) (by first | rfl | simp) (by simp))⟩
            · first | (replace hc150 := of_decide_eq_false hc150) | (replace hc150 := of_decide_eq_true (bnot_f hc150)) | (subst hc150) | (replace hc150 := bnot_f hc150; subst hc150) | (replace hc150 := bnot_f hc150) | skip
              refine wp_skip ?_
              refine then_n ?_
              refine c_region ?_
              refine seq_yl hF (wn_none rfl) rfl rfl (yl_loadK (rs := [_, _, _, _]) (fun _ h => h ▸ hS) hF rfl rfl 0 rfl ag49 sz49 rfl rfl) ?_
              clear hF; intro a hF
              refine seq_wp (wn_none rfl) (wp_store (cs' := #[_, _, _, _]) hF hS rfl rfl rfl rfl 2 rfl sz49 (by simp [Value.cells, Value.oneCell']) (by simp [Value.cells]) rfl ?_)
              clear hF hS; intro a w hF hS
              refine wpList_nil ?_
              refine inb_n ?_
              refine then_n ?_
              refine c_region ?_
              refine seq_yl hF (wn_none rfl) rfl rfl (yl_move hF rfl rfl) ?_
              clear hF; intro a hF
              refine seq_yl hF (wn_none rfl) rfl rfl (yl_bin hF rfl rfl rfl rfl (fun _ => run_sub (by refine ⟨?_, ?_⟩ <;> omega))) ?_
              clear hF; intro a hF
              refine seq_yl hF (wn_none rfl) rfl rfl (yl_assign hF rfl rfl) ?_
              clear hF; intro a hF
              refine wpList_nil ?_
              refine then_n ?_
              exact ⟨_, (by omega), nn - 1, (c145), (c146), (c147), (c148), rfl, ⟨by omega, by omega, by omega, by omega, by omega, by rw [hrun]; first | exact div_next (by omega) (div_stepA hm142 (four_ne (by assumption))) (four_ne (by assumption)) | exact div_next (by omega) (div_stepB hm142 (four_eq (by assumption)) hm149) (four_ne (by assumption))⟩, hF.to [0, 1, 5] rfl, (hS.sub [1, 2] (by decide) (by first | rfl | simp) (by simp))⟩
          · first | (replace hc144 := of_decide_eq_false hc144) | (replace hc144 := of_decide_eq_true (bnot_f hc144)) | (subst hc144) | (replace hc144 := bnot_f hc144; subst hc144) | (replace hc144 := bnot_f hc144) | skip
            refine wp_skip ?_
            refine then_n ?_
            refine c_seq ?_
            refine c_seq ?_
            refine c_region ?_
            refine seq_yl hF (wn_none rfl) rfl rfl (yl_loadK (rs := [_, _, _, _]) (fun _ h => h ▸ hS) hF rfl rfl 0 rfl ag49 sz49 rfl rfl) ?_
            clear hF; intro a hF
            refine seq_yl hF (wn_none rfl) rfl rfl (yl_loadK (rs := [_, _, _, _]) (fun _ h => h ▸ hS) hF rfl rfl 2 rfl ag49 sz49 rfl rfl) ?_
            clear hF; intro a hF
            refine seq_yl hF (wn_none rfl) rfl rfl (yl_binA hF rfl rfl rfl (fun w => run_eqGuard_agg w _ _ _ _ _ _ hm49) (fun w => eqs49 _ _ _ _ _ _ _ _ w)) ?_
            clear hF; intro a hF
            refine wpList_nil ?_
            refine then_n ?_
            refine c_cond hF rfl (fun hc152 => ?_) (fun hc152 => ?_)
            · first | (replace hc152 := of_decide_eq_true hc152) | (replace hc152 := of_decide_eq_false (bnot_t hc152)) | (subst hc152) | (replace hc152 := bnot_t hc152; subst hc152) | (replace hc152 := bnot_t hc152) | skip
              refine wp_exit ?_
              refine then_x ?_
              refine inb_o (by decide) ?_
              refine then_x ?_
              refine then_x ?_
              refine inb_x ?_
              refine then_n ?_
              refine c_seq ?_
              refine c_region ?_
              refine seq_yl hF (wn_none rfl) rfl rfl (yl_move hF rfl rfl) ?_
              clear hF; intro a hF
              refine seq_yl hF (wn_none rfl) rfl rfl (yl_len hF rfl rfl (fun _ => run_lenRd sl26 (hS.rdRo 1 rfl))) ?_
              clear hF; intro a hF
              refine seq_yl hF (wn_none rfl) rfl rfl (yl_sliceArrH hF rfl rfl rfl ar49 sz3 (by omega)) ?_
              clear hF; intro a hF
              refine seq_wp (wn_none rfl) (wp_call (vs := [_]) hF rfl rfl rfl rfl cf32 (clone_any _ ([(b0), (b1), (b2), (b3)].take (L).length) _ (rd_box hS 2 rfl [(b0), (b1), (b2), (b3)] rfl (by simp; omega) rfl (by decide)) (by simp; omega)) ?_)
              clear hF; rintro _ w ⟨v153, rfl, hS1⟩ a hF
              replace hS := hS.callB hS1 rfl; clear hS1
              obtain ⟨Av153, cv153, rfl⟩ := hS.form 0 rfl
              refine seq_yl hF (wn_none rfl) rfl rfl (yl_assign hF rfl rfl) ?_
              clear hF; intro a hF
              refine wpList_nil ?_
              refine then_n ?_
              refine wp_ret ?_
              refine ret_t hF rfl rfl ?_
              have hd : divF L n = [b0, b1, b2, b3].take L.length := by unfold divF; rw [if_pos ⟨by assumption, by omega⟩, hrun]; first | (rw [show nn.toNat = 0 by omega]; rfl) | (rw [div_fix (div_stepA hm142 (by intro e; exact absurd (by simpa using e) (by assumption)))]) | (rw [div_fix ((div_stepB hm142 (four_eq (by assumption)) hm149).trans (four_eq (by assumption)))])
              rw [hd]
              exact ⟨_, rfl, _, rfl, (hS.sub [0] (by decide) (by first | rfl | simp) (by simp))⟩
            · first | (replace hc152 := of_decide_eq_false hc152) | (replace hc152 := of_decide_eq_true (bnot_f hc152)) | (subst hc152) | (replace hc152 := bnot_f hc152; subst hc152) | (replace hc152 := bnot_f hc152) | skip
              refine wp_skip ?_
              refine then_n ?_
              refine c_region ?_
              refine seq_yl hF (wn_none rfl) rfl rfl (yl_loadK (rs := [_, _, _, _]) (fun _ h => h ▸ hS) hF rfl rfl 0 rfl ag49 sz49 rfl rfl) ?_
              clear hF; intro a hF
              refine seq_wp (wn_none rfl) (wp_store (cs' := #[_, _, _, _]) hF hS rfl rfl rfl rfl 2 rfl sz49 (by simp [Value.cells, Value.oneCell']) (by simp [Value.cells]) rfl ?_)
              clear hF hS; intro a w hF hS
              refine wpList_nil ?_
              refine inb_n ?_
              refine then_n ?_
              refine c_region ?_
              refine seq_yl hF (wn_none rfl) rfl rfl (yl_move hF rfl rfl) ?_
              clear hF; intro a hF
              refine seq_yl hF (wn_none rfl) rfl rfl (yl_bin hF rfl rfl rfl rfl (fun _ => run_sub (by refine ⟨?_, ?_⟩ <;> omega))) ?_
              clear hF; intro a hF
              refine seq_yl hF (wn_none rfl) rfl rfl (yl_assign hF rfl rfl) ?_
              clear hF; intro a hF
              refine wpList_nil ?_
              refine then_n ?_
              exact ⟨_, (by omega), nn - 1, (c138), (c139), (c140), (c141), rfl, ⟨by omega, by omega, by omega, by omega, by omega, by rw [hrun]; first | exact div_next (by omega) (div_stepA hm142 (four_ne (by assumption))) (four_ne (by assumption)) | exact div_next (by omega) (div_stepB hm142 (four_eq (by assumption)) hm149) (four_ne (by assumption))⟩, hF.to [0, 1, 5] rfl, (hS.sub [1, 2] (by decide) (by first | rfl | simp) (by simp))⟩
        · first | (replace hc137 := of_decide_eq_false hc137) | (replace hc137 := of_decide_eq_true (bnot_f hc137)) | (subst hc137) | (replace hc137 := bnot_f hc137; subst hc137) | (replace hc137 := bnot_f hc137) | skip
          refine wp_exit ?_
          refine then_x ?_
          refine then_x ?_
          refine inb_x ?_
          refine then_n ?_
          refine c_seq ?_
          refine c_region ?_
          refine seq_yl hF (wn_none rfl) rfl rfl (yl_move hF rfl rfl) ?_
          clear hF; intro a hF
          refine seq_yl hF (wn_none rfl) rfl rfl (yl_len hF rfl rfl (fun _ => run_lenRd sl26 (hS.rdRo 0 rfl))) ?_
          clear hF; intro a hF
          refine seq_yl hF (wn_none rfl) rfl rfl (yl_sliceArrH hF rfl rfl rfl ar49 sz3 (by omega)) ?_
          clear hF; intro a hF
          refine seq_wp (wn_none rfl) (wp_call (vs := [_]) hF rfl rfl rfl rfl cf32 (clone_any _ ([(b0), (b1), (b2), (b3)].take (L).length) _ (rd_box hS 1 rfl [(b0), (b1), (b2), (b3)] rfl (by simp; omega) rfl (by decide)) (by simp; omega)) ?_)
          clear hF; rintro _ w ⟨v154, rfl, hS1⟩ a hF
          replace hS := hS.callB hS1 rfl; clear hS1
          obtain ⟨Av154, cv154, rfl⟩ := hS.form 0 rfl
          refine seq_yl hF (wn_none rfl) rfl rfl (yl_assign hF rfl rfl) ?_
          clear hF; intro a hF
          refine wpList_nil ?_
          refine then_n ?_
          refine wp_ret ?_
          refine ret_t hF rfl rfl ?_
          have hd : divF L n = [b0, b1, b2, b3].take L.length := by unfold divF; rw [if_pos ⟨by assumption, by omega⟩, hrun]; first | (rw [show nn.toNat = 0 by omega]; rfl) | (rw [div_fix (div_stepA hm142 (by intro e; exact absurd (by simpa using e) (by assumption)))]) | (rw [div_fix ((div_stepB hm142 (four_eq (by assumption)) hm149).trans (four_eq (by assumption)))])
          rw [hd]
          exact ⟨_, rfl, _, rfl, (hS.sub [0] (by decide) (by first | rfl | simp) (by simp))⟩

end Go.Proofs.Ytiifpgkdgnoafaa

/- walks, printed by wip/gen -/
import Derived.Test.YteidhjdkaaddgaaW8
import Derived.Test.YteidhjdkaaddgaaW5
namespace Go.Proofs.Yteidhjdkaaddgaa
open Go.RowKit
set_option linter.unusedVariables false
set_option linter.unusedSimpArgs false

set_option maxRecDepth 100000 in
theorem copied_any (st : ByteArray) (lv : Value) (L : List E39) (rm : Int) (w0 : World) (hv : Rd w0 2 lv (L).length (cells enc39 (L))) (hL : L.length ≤ 1000000) :
    Fn Try.prog 36 #[.agg #[.string st, lv, .int .i64 rm]] w0 (fun v w' => ∃ lv1, v = .agg #[.string st, lv1, .int .i64 rm] ∧ Sat w0 w' [.row 39 2 lv1 (L).length (cells enc39 (L))]) := by
  obtain ⟨Alv, clv, rfl⟩ := Rd.form hv
  refine c_enter (N := 8) (l := [_]) Try.func36 rfl rfl (fun a w hF hS => ?_)
  replace hS := hS.addRo hv
  refine c_seq ?_
  refine c_region ?_
  refine seq_wp (wn_none rfl) (wp_box (cs := #[_, _, _]) hF hS rfl rfl rfl rfl rfl ?_)
  clear hF hS; intro a w g283 hF hS
  refine seq_wp (wn_none rfl) (wp_alloc (cs := #[_, _, _]) hF hS rfl rfl rfl zr25 rfl ?_)
  clear hF hS; intro a w g284 hF hS
  refine wpList_nil ?_
  refine then_n ?_
  refine c_seq ?_
  refine c_region ?_
  refine seq_yl hF (wn_none rfl) rfl rfl (yl_fieldAddr hF rfl rfl (fun w => by kernel_rfl : ∀ w, (Instr.fieldAt 25 (.pointer (some ⟨g283, 0, none⟩)) 1).run Try.prog w = .ok (.pointer (some ⟨g283, 1, none⟩)) w)) ?_
  clear hF; intro a hF
  refine seq_yl hF (wn_none rfl) rfl rfl (yl_load (fun _ h => h ▸ hS) hF rfl rfl 1 rfl ag23 rfl) ?_
  clear hF; intro a hF
  refine seq_wp (wn_none rfl) (wp_call (vs := [_]) hF rfl rfl rfl rfl cf52 (cloneP_any _ _ _ (hS.rdRo 2 rfl) (by first | omega | (simp; done) | (simp; omega))) ?_)
  clear hF; rintro _ w ⟨v285, rfl, hS1⟩ a hF
  replace hS := hS.callB hS1 rfl; clear hS1
  obtain ⟨Av285, cv285, rfl⟩ := hS.form 0 rfl
  refine seq_yl hF (wn_none rfl) rfl rfl (yl_fieldAddr hF rfl rfl (fun w => by kernel_rfl : ∀ w, (Instr.fieldAt 25 (.pointer (some ⟨g283, 0, none⟩)) 1).run Try.prog w = .ok (.pointer (some ⟨g283, 1, none⟩)) w)) ?_
  clear hF; intro a hF
  refine seq_wp (wn_none rfl) (wp_store (cs' := #[_, _, _]) hF hS rfl rfl rfl rfl 2 rfl sz23 (by simp [Value.cells, Value.oneCell']) (by simp [Value.cells]) rfl ?_)
  clear hF hS; intro a w hF hS
  refine wpList_nil ?_
  refine then_n ?_
  refine c_seq ?_
  refine c_region ?_
  refine seq_yl hF (wn_none rfl) rfl rfl (yl_loadK (rs := [_, _, _]) (fun _ h => h ▸ hS) hF rfl rfl 2 rfl ag25 sz25 rfl rfl) ?_
  clear hF; intro a hF
  refine seq_wp (wn_none rfl) (wp_store (cs' := #[_, _, _]) hF hS rfl rfl rfl rfl 1 rfl sz25 (by simp [Value.cells, Value.oneCell']) (by simp [Value.cells]) rfl ?_)
  clear hF hS; intro a w hF hS
  refine wpList_nil ?_
  refine then_n ?_
  refine wp_ret ?_
  refine ret_c hF rfl (resC hS rfl 1 rfl ag25 sz25) ?_
  exact ⟨_, rfl, _, rfl, (hS.sub [0] (by decide) (by first | rfl | simp) (by simp))⟩

set_option maxHeartbeats 2000000 in
set_option maxRecDepth 100000 in
theorem write_any (st : ByteArray) (lv : Value) (L : List E39) (rm : Int) (s : Int) (x : ByteArray) (fua : Bool) (w0 : World) (hv : Rd w0 2 lv (L).length (cells enc39 (L))) (hz : (st.size : Int) ≤ 9223372036854775807) (hL : L.length ≤ 1000000) (hx : (x.size : Int) ≤ 9223372036854775807) :
    Fn Try.prog 14 #[.agg #[.string st, lv, .int .i64 rm], .int .i64 s, .string x, .bool fua] w0 (fun v w' => ∃ (st1 : ByteArray) (lv1 : Value) (L1 : List E39) (rm1 : Int) (b : Bool), v = .tuple #[.agg #[.string st1, lv1, .int .i64 rm1], .bool b] ∧ writeF st L rm s x fua = (st1, L1, rm1, b) ∧ Sat w0 w' [.row 39 2 lv1 (L1).length (cells enc39 (L1))]) := by
  obtain ⟨Alv, clv, rfl⟩ := Rd.form hv
  refine c_enter (N := 59) (l := [_, _, _, _]) Try.func14 rfl rfl (fun a w hF hS => ?_)
  replace hS := hS.addRo hv
  refine c_seq ?_
  refine c_region ?_
  refine seq_wp (wn_none rfl) (wp_box (cs := #[_, _, _]) hF hS rfl rfl rfl rfl rfl ?_)
  clear hF hS; intro a w g286 hF hS
  refine seq_wp (wn_none rfl) (wp_alloc (cs := #[_, _, _]) hF hS rfl rfl rfl zr25 rfl ?_)
  clear hF hS; intro a w g287 hF hS
  refine seq_yl hF (wn_none rfl) rfl rfl (yl_assign hF rfl rfl) ?_
  clear hF; intro a hF
  refine wpList_nil ?_
  refine then_n ?_
  refine c_seq ?_
  refine c_region ?_
  refine seq_yl hF (wn_none rfl) rfl rfl (yl_move hF rfl rfl) ?_
  clear hF; intro a hF
  refine seq_yl hF (wn_none rfl) rfl rfl (yl_len hF rfl rfl (fun _ => run_lenStr Try.underlying9)) ?_
  clear hF; intro a hF
  refine seq_yl hF (wn_none rfl) rfl rfl (yl_bin hF rfl rfl rfl rfl (fun _ => run_quoN (by omega) (by omega) (by omega))) ?_
  clear hF; intro a hF
  refine seq_yl hF (wn_none rfl) rfl rfl (yl_assign hF rfl rfl) ?_
  clear hF; intro a hF
  refine wpList_nil ?_
  refine then_n ?_
  refine c_seq ?_
  refine c_seq ?_
  refine c_region ?_
  refine seq_yl hF (wn_none rfl) rfl rfl (yl_loadK (rs := [_, _, _]) (fun _ h => h ▸ hS) hF rfl rfl 1 rfl ag25 sz25 rfl rfl) ?_
  clear hF; intro a hF
  refine seq_wp (wn_none rfl) (wp_call (vs := [_]) hF rfl rfl rfl rfl cf26 (dValid_any st _ L (rm) _ (hS.rdRo 2 rfl) (by first | omega | (simp; done)) (by first | omega | (simp; done))) ?_)
  clear hF; rintro _ w ⟨rfl, hS1⟩ a hF
  replace hS := hS.callB hS1 rfl; clear hS1
  refine seq_yl hF (wn_none rfl) rfl rfl (yl_un hF rfl rfl (fun _ => run_not)) ?_
  clear hF; intro a hF
  refine seq_yl hF (wn_none rfl) rfl rfl (yl_move hF rfl rfl) ?_
  clear hF; intro a hF
  refine fr_split hF (fun hc288 hF => ?_) (fun hc288 hF => ?_)
  · first | (replace hc288 := of_decide_eq_true hc288) | (replace hc288 := of_decide_eq_false (bnot_t hc288)) | (replace hc288 := bnot_t hc288) | skip
    try (have hc288x := hc288; simp only [okS, okI, okW, okP] at hc288x)
    refine seq_skip hF (wn_f hF rfl rfl rfl rfl) rfl rfl ?_
    clear hF; intro a hF
    refine seq_skip hF (wn_f hF rfl rfl rfl rfl) rfl rfl ?_
    clear hF; intro a hF
    refine seq_skip hF (wn_f hF rfl rfl rfl rfl) rfl rfl ?_
    clear hF; intro a hF
    refine seq_skip hF (wn_f hF rfl rfl rfl rfl) rfl rfl ?_
    clear hF; intro a hF
    refine seq_yl hF (wn_none rfl) rfl rfl (yl_pick (u := _) (v := undef) hF rfl rfl (fun _ => rfl) (fun h => by cases h)) ?_
    clear hF; intro a hF
    refine seq_yl hF (wn_none rfl) rfl rfl (yl_move hF rfl rfl) ?_
    clear hF; intro a hF
    refine seq_skip hF (wn_f hF rfl rfl rfl rfl) rfl rfl ?_
    clear hF; intro a hF
    refine seq_skip hF (wn_f hF rfl rfl rfl rfl) rfl rfl ?_
    clear hF; intro a hF
    refine seq_skip hF (wn_f hF rfl rfl rfl rfl) rfl rfl ?_
    clear hF; intro a hF
    refine seq_skip hF (wn_f hF rfl rfl rfl rfl) rfl rfl ?_
    clear hF; intro a hF
    refine seq_skip hF (wn_f hF rfl rfl rfl rfl) rfl rfl ?_
    clear hF; intro a hF
    refine seq_yl hF (wn_none rfl) rfl rfl (yl_pick (u := _) (v := undef) hF rfl rfl (fun _ => rfl) (fun h => by cases h)) ?_
    clear hF; intro a hF
    refine wpList_nil ?_
    refine then_n ?_
    refine c_cond_t hF rfl ?_
    refine c_seq ?_
    refine c_region ?_
    refine seq_yl hF (wn_none rfl) rfl rfl (yl_build (parts := []) (vs := []) (cs := [_, _, _]) hF bd25 rfl rfl rfl rfl) ?_
    clear hF; intro a hF
    refine seq_wp (wn_none rfl) (wp_store (cs' := #[_, _, _]) hF hS rfl rfl rfl rfl 0 rfl sz25 (by simp [Value.cells, Value.oneCell']) (by simp [Value.cells]) rfl ?_)
    clear hF hS; intro a w hF hS
    refine seq_yl hF (wn_none rfl) rfl rfl (yl_assign hF rfl rfl) ?_
    clear hF; intro a hF
    refine wpList_nil ?_
    refine then_n ?_
    refine wp_ret ?_
    refine then_r ?_
    refine ret_ct hF rfl (resC hS rfl 0 rfl ag25 sz25) rfl ?_
    replace hS := hS.addNil 39 2
    exact ⟨_, rfl, _, _, [], _, _, rfl, wr_bad (fun h9 => by have h8 := h9.2; have h7 := okD_I h9.1; simp only [okW, okS, okI] at h8; first | exact absurd h9.1 (by assumption) | exact absurd h9.2.1 (by assumption) | omega), (hS.sub [0] (by decide) (by first | rfl | simp) (by simp))⟩
  · first | (replace hc288 := of_decide_eq_false hc288) | (replace hc288 := of_decide_eq_true (bnot_f hc288)) | (replace hc288 := bnot_f hc288) | skip
    try (have hc288x := hc288; simp only [okS, okI, okW, okP] at hc288x)
    refine seq_yl hF (wn_t hF rfl rfl rfl rfl) rfl rfl (yl_move hF rfl rfl) ?_
    clear hF; intro a hF
    refine seq_yl hF (wn_t hF rfl rfl rfl rfl) rfl rfl (yl_len hF rfl rfl (fun _ => run_lenStr Try.underlying9)) ?_
    clear hF; intro a hF
    refine seq_yl hF (wn_t hF rfl rfl rfl rfl) rfl rfl (yl_bin hF rfl rfl rfl rfl (fun _ => run_remN (by omega) (by omega))) ?_
    clear hF; intro a hF
    refine seq_yl hF (wn_t hF rfl rfl rfl rfl) rfl rfl (yl_bin hF rfl rfl rfl rfl (fun _ => run_neq)) ?_
    clear hF; intro a hF
    refine seq_yl hF (wn_none rfl) rfl rfl (yl_pick (u := _) (v := undef) hF rfl rfl (fun h => by cases h) (fun _ => rfl)) ?_
    clear hF; intro a hF
    refine seq_yl hF (wn_none rfl) rfl rfl (yl_move hF rfl rfl) ?_
    clear hF; intro a hF
    refine fr_split hF (fun hc290 hF => ?_) (fun hc290 hF => ?_)
    · first | (replace hc290 := of_decide_eq_true hc290) | (replace hc290 := of_decide_eq_false (bnot_t hc290)) | (replace hc290 := bnot_t hc290) | skip
      try (have hc290x := hc290; simp only [okS, okI, okW, okP] at hc290x)
      refine seq_skip hF (wn_f hF rfl rfl rfl rfl) rfl rfl ?_
      clear hF; intro a hF
      refine seq_skip hF (wn_f hF rfl rfl rfl rfl) rfl rfl ?_
      clear hF; intro a hF
      refine seq_skip hF (wn_f hF rfl rfl rfl rfl) rfl rfl ?_
      clear hF; intro a hF
      refine seq_skip hF (wn_f hF rfl rfl rfl rfl) rfl rfl ?_
      clear hF; intro a hF
      refine seq_skip hF (wn_f hF rfl rfl rfl rfl) rfl rfl ?_
      clear hF; intro a hF
      refine seq_yl hF (wn_none rfl) rfl rfl (yl_pick (u := _) (v := undef) hF rfl rfl (fun _ => rfl) (fun h => by cases h)) ?_
      clear hF; intro a hF
      refine wpList_nil ?_
      refine then_n ?_
      refine c_cond_t hF rfl ?_
      refine c_seq ?_
      refine c_region ?_
      refine seq_yl hF (wn_none rfl) rfl rfl (yl_build (parts := []) (vs := []) (cs := [_, _, _]) hF bd25 rfl rfl rfl rfl) ?_
      clear hF; intro a hF
      refine seq_wp (wn_none rfl) (wp_store (cs' := #[_, _, _]) hF hS rfl rfl rfl rfl 0 rfl sz25 (by simp [Value.cells, Value.oneCell']) (by simp [Value.cells]) rfl ?_)
      clear hF hS; intro a w hF hS
      refine seq_yl hF (wn_none rfl) rfl rfl (yl_assign hF rfl rfl) ?_
      clear hF; intro a hF
      refine wpList_nil ?_
      refine then_n ?_
      refine wp_ret ?_
      refine then_r ?_
      refine ret_ct hF rfl (resC hS rfl 0 rfl ag25 sz25) rfl ?_
      replace hS := hS.addNil 39 2
      exact ⟨_, rfl, _, _, [], _, _, rfl, wr_bad (fun h9 => by have h8 := h9.2; have h7 := okD_I h9.1; simp only [okW, okS, okI] at h8; first | exact absurd h9.1 (by assumption) | exact absurd h9.2.1 (by assumption) | omega), (hS.sub [0] (by decide) (by first | rfl | simp) (by simp))⟩
    · first | (replace hc290 := of_decide_eq_false hc290) | (replace hc290 := of_decide_eq_true (bnot_f hc290)) | (replace hc290 := bnot_f hc290) | skip
      try (have hc290x := hc290; simp only [okS, okI, okW, okP] at hc290x)
      refine seq_yl hF (wn_t hF rfl rfl rfl rfl) rfl rfl (yl_loadK (rs := [_, _, _]) (fun _ h => h ▸ hS) hF rfl rfl 1 rfl ag25 sz25 rfl rfl) ?_
      clear hF; intro a hF
      refine seq_yl hF (wn_t hF rfl rfl rfl rfl) rfl rfl (yl_move hF rfl rfl) ?_
      clear hF; intro a hF
      refine seq_yl hF (wn_t hF rfl rfl rfl rfl) rfl rfl (yl_move hF rfl rfl) ?_
      clear hF; intro a hF
      refine seq_wp (wn_t hF rfl rfl rfl rfl) (wp_call (vs := [_, _, _]) hF rfl rfl rfl rfl cf34 (has_any st _ _ (s) (((((x).size : Nat) : Int) / (8 : Int))) _ (by omega)) ?_)
      clear hF; rintro _ w ⟨rfl, hS1⟩ a hF
      replace hS := hS.callB hS1 rfl; clear hS1
      refine seq_yl hF (wn_t hF rfl rfl rfl rfl) rfl rfl (yl_un hF rfl rfl (fun _ => run_not)) ?_
      clear hF; intro a hF
      refine seq_yl hF (wn_none rfl) rfl rfl (yl_pick (u := _) (v := undef) hF rfl rfl (fun h => by cases h) (fun _ => rfl)) ?_
      clear hF; intro a hF
      refine wpList_nil ?_
      refine then_n ?_
      refine c_cond hF rfl (fun hc292 => ?_) (fun hc292 => ?_)
      · first | (replace hc292 := of_decide_eq_true hc292) | (replace hc292 := of_decide_eq_false (bnot_t hc292)) | (replace hc292 := bnot_t hc292) | skip
        try (have hc292x := hc292; simp only [okS, okI, okW, okP] at hc292x)
        refine c_seq ?_
        refine c_region ?_
        refine seq_yl hF (wn_none rfl) rfl rfl (yl_build (parts := []) (vs := []) (cs := [_, _, _]) hF bd25 rfl rfl rfl rfl) ?_
        clear hF; intro a hF
        refine seq_wp (wn_none rfl) (wp_store (cs' := #[_, _, _]) hF hS rfl rfl rfl rfl 0 rfl sz25 (by simp [Value.cells, Value.oneCell']) (by simp [Value.cells]) rfl ?_)
        clear hF hS; intro a w hF hS
        refine seq_yl hF (wn_none rfl) rfl rfl (yl_assign hF rfl rfl) ?_
        clear hF; intro a hF
        refine wpList_nil ?_
        refine then_n ?_
        refine wp_ret ?_
        refine then_r ?_
        refine ret_ct hF rfl (resC hS rfl 0 rfl ag25 sz25) rfl ?_
        replace hS := hS.addNil 39 2
        exact ⟨_, rfl, _, _, [], _, _, rfl, wr_bad (fun h9 => by have h8 := h9.2; have h7 := okD_I h9.1; simp only [okW, okS, okI] at h8; first | exact absurd h9.1 (by assumption) | exact absurd h9.2.1 (by assumption) | omega), (hS.sub [0] (by decide) (by first | rfl | simp) (by simp))⟩
      · first | (replace hc292 := of_decide_eq_false hc292) | (replace hc292 := of_decide_eq_true (bnot_f hc292)) | (replace hc292 := bnot_f hc292) | skip
        try (have hc292x := hc292; simp only [okS, okI, okW, okP] at hc292x)
        refine wp_skip ?_
        refine then_n ?_
        refine c_seq ?_
        refine c_region ?_
        refine seq_yl hF (wn_none rfl) rfl rfl (yl_loadK (rs := [_, _, _]) (fun _ h => h ▸ hS) hF rfl rfl 1 rfl ag25 sz25 rfl rfl) ?_
        clear hF; intro a hF
        refine seq_yl hF (wn_none rfl) rfl rfl (yl_build (parts := [(0, .tmp 33)]) (vs := [(0, _)]) (cs := [_, _, _]) hF bd57 rfl rfl rfl rfl) ?_
        clear hF; intro a hF
        refine seq_wp (wn_none rfl) (wp_box (cs := #[_, _, _]) hF hS rfl rfl rfl rfl rfl ?_)
        clear hF hS; intro a w g294 hF hS
        refine seq_yl hF (wn_none rfl) rfl rfl (yl_assign hF rfl rfl) ?_
        clear hF; intro a hF
        refine wpList_nil ?_
        refine then_n ?_
        refine c_seq ?_
        refine c_seq ?_
        refine c_region ?_
        refine seq_yl hF (wn_none rfl) rfl rfl (yl_move hF rfl rfl) ?_
        clear hF; intro a hF
        refine seq_yl hF (wn_none rfl) rfl rfl (yl_move hF rfl rfl) ?_
        clear hF; intro a hF
        refine wpList_nil ?_
        refine then_n ?_
        refine wp_block ?_
        have hd9 : okD st L rm := by assumption
        have hw9 : okW (st.size : Int) s (x.size : Int) := by have h8 := okD_I hd9; unfold okW okS okI; first | omega | (refine ⟨by assumption, by omega⟩)
        have hw9x := hw9
        simp only [okW, okS, okI] at hw9x
        refine c_loop (fun m a w => ∃ (k : Nat) (st1 : ByteArray) (L1 : List E39) (AvW : Option Addr) (cvW : Nat), m = ((x.size : Int) / 8 - (k : Int)).toNat ∧ ((k : Int) ≤ (x.size : Int) / 8 ∧ wrN st L rm s x fua k = (st1, L1)) ∧ Fr 59 a [(1, .int .i64 (s)), (2, .string x), (3, .bool fua), (8, .pointer (some ⟨g287, 0, none⟩)), (11, .pointer (some ⟨g294, 0, none⟩)), (36, .int .i64 (((((x).size : Nat) : Int) / (8 : Int)))), (37, .int .i64 ((k : Nat) : Int))] ∧ Sat w0 w (.box g294 57 #[.string st1, .slice AvW (L1).length cvW, .int .i64 (rm)] :: .box g287 25 #[.string (⟨#[]⟩ : ByteArray), .slice none 0 0, .int .i64 (0 : Int)] :: .ro 2 (.slice AvW (L1).length cvW) (L1).length (cells enc39 (L1)) :: [])) (((x.size : Int) / 8 - ((0 : Nat) : Int)).toNat) ?_ ?_
        · exact ⟨0, st, L, Alv, clv, rfl, ⟨by omega, rfl⟩, hF.to [1, 2, 3, 8, 11, 36, 37] rfl, (hS.sub [0, 1, 3] (by decide) (by first | rfl | simp) (by simp))⟩
        · clear hF hS; try clear hSS
          clear a w; rintro m a w ⟨k, st1, L1, AvW, cvW, rfl, hinv, hF, hS⟩
          obtain ⟨hk, hw⟩ := hinv
          have hok := wrN_ok (fua := fua) hd9 hw9 k (by omega)
          rw [hw] at hok; dsimp only at hok
          obtain ⟨hd1, hs1⟩ := hok
          have hd1i := okD_I hd1
          refine c_seq ?_
          refine c_region ?_
          refine seq_yl hF (wn_none rfl) rfl rfl (yl_bin hF rfl rfl rfl rfl (fun _ => run_lss)) ?_
          clear hF; intro a hF
          refine wpList_nil ?_
          refine then_n ?_
          refine c_seq ?_
          refine c_cond hF rfl (fun hc295 => ?_) (fun hc295 => ?_)
          · first | (replace hc295 := of_decide_eq_true hc295) | (replace hc295 := of_decide_eq_false (bnot_t hc295)) | (replace hc295 := bnot_t hc295) | skip
            try (have hc295x := hc295; simp only [okS, okI, okW, okP] at hc295x)
            refine wp_skip ?_
            refine then_n ?_
            refine c_seq ?_
            refine wp_block ?_
            refine c_seq ?_
            refine c_region ?_
            refine seq_yl hF (wn_none rfl) rfl rfl (yl_move hF rfl rfl) ?_
            clear hF; intro a hF
            refine seq_yl hF (wn_none rfl) rfl rfl (yl_assign hF rfl rfl) ?_
            clear hF; intro a hF
            refine wpList_nil ?_
            refine then_n ?_
            refine c_region ?_
            refine seq_yl hF (wn_none rfl) rfl rfl (yl_move hF rfl rfl) ?_
            clear hF; intro a hF
            refine seq_yl hF (wn_none rfl) rfl rfl (yl_move hF rfl rfl) ?_
            clear hF; intro a hF
            refine seq_yl hF (wn_none rfl) rfl rfl (yl_move hF rfl rfl) ?_
            clear hF; intro a hF
            refine seq_yl hF (wn_none rfl) rfl rfl (yl_bin hF rfl rfl rfl rfl (fun _ => run_add (by refine ⟨?_, ?_⟩ <;> omega))) ?_
            clear hF; intro a hF
            refine seq_yl hF (wn_none rfl) rfl rfl (yl_move hF rfl rfl) ?_
            clear hF; intro a hF
            refine seq_yl hF (wn_none rfl) rfl rfl (yl_move hF rfl rfl) ?_
            clear hF; intro a hF
            refine seq_yl hF (wn_none rfl) rfl rfl (yl_bin hF rfl rfl rfl rfl (fun _ => run_mul (by refine ⟨?_, ?_⟩ <;> omega))) ?_
            clear hF; intro a hF
            refine seq_yl hF (wn_none rfl) rfl rfl (yl_move hF rfl rfl) ?_
            clear hF; intro a hF
            refine seq_yl hF (wn_none rfl) rfl rfl (yl_bin hF rfl rfl rfl rfl (fun _ => run_inc (by omega))) ?_
            clear hF; intro a hF
            refine seq_yl hF (wn_none rfl) rfl rfl (yl_bin hF rfl rfl rfl rfl (fun _ => run_mul (by refine ⟨?_, ?_⟩ <;> omega))) ?_
            clear hF; intro a hF
            have hz296 := subs_size (s := x) (i := ((((k : Nat) : Int) * (8 : Int)))) (j := (((((k + 1) : Nat) : Int) * (8 : Int)))) (by omega) (by omega) (by omega)
            refine seq_yl hF (wn_none rfl) rfl rfl (yl_subsLH (s := x) (i := ((((k : Nat) : Int) * (8 : Int)))) (j := (((((k + 1) : Nat) : Int) * (8 : Int)))) hF rfl rfl rfl rfl Try.underlying9 (by omega) (by omega) (by omega)) ?_
            clear hF; intro a hF
            refine seq_yl hF (wn_none rfl) rfl rfl (yl_move hF rfl rfl) ?_
            clear hF; intro a hF
            replace hS := (hS.sub [0, 2, 1] (by decide) (by first | rfl | simp) (by simp))
            refine seq_wp (wn_none rfl) (wp_call (vs := [_, _, _, _]) hF rfl rfl rfl rfl cf35 (put_any _ _ _ _ _ _ _ L1 _ (((s) + ((k : Nat) : Int))) (subs x ((((k : Nat) : Int) * (8 : Int))) (((((k + 1) : Nat) : Int) * (8 : Int)))) fua hS (by assumption) (by unfold okS okI; omega) (by omega)) ?_)
            clear hF hS; rintro _ w ⟨st297, Lq298, v299, rfl, hq300, hS⟩ a hF
            obtain ⟨Av299, cv299, rfl⟩ := hS.form 1 rfl
            refine wpList_nil ?_
            refine inb_n ?_
            refine then_n ?_
            refine c_region ?_
            refine seq_yl hF (wn_none rfl) rfl rfl (yl_bin hF rfl rfl rfl rfl (fun _ => run_inc (by omega))) ?_
            clear hF; intro a hF
            refine seq_yl hF (wn_none rfl) rfl rfl (yl_move hF rfl rfl) ?_
            clear hF; intro a hF
            refine wpList_nil ?_
            refine then_n ?_
            replace hS := hS.toRo 1 rfl
            exact ⟨_, (by omega), k + 1, st297, Lq298, Av299, cv299, rfl, ⟨by omega, wrN_succ hw hq300⟩, hF.to [1, 2, 3, 8, 11, 36, 37] rfl, (hS.sub [0, 2, 1] (by decide) (by first | rfl | simp) (by simp))⟩
          · first | (replace hc295 := of_decide_eq_false hc295) | (replace hc295 := of_decide_eq_true (bnot_f hc295)) | (replace hc295 := bnot_f hc295) | skip
            try (have hc295x := hc295; simp only [okS, okI, okW, okP] at hc295x)
            refine wp_exit ?_
            refine then_x ?_
            refine then_x ?_
            refine inb_x ?_
            refine then_n ?_
            refine c_seq ?_
            refine c_region ?_
            refine seq_yl hF (wn_none rfl) rfl rfl (yl_move hF rfl rfl) ?_
            clear hF; intro a hF
            refine seq_yl hF (wn_none rfl) rfl rfl (yl_nilCheck hF rfl rfl) ?_
            clear hF; intro a hF
            refine seq_yl hF (wn_none rfl) rfl rfl (yl_fieldAddr hF rfl rfl (fun w => by kernel_rfl : ∀ w, (Instr.fieldAt 57 (.pointer (some ⟨g294, 0, none⟩)) 0).run Try.prog w = .ok (.pointer (some ⟨g294, 0, none⟩)) w)) ?_
            clear hF; intro a hF
            refine seq_yl hF (wn_none rfl) rfl rfl (yl_loadK (rs := [_, _, _]) (fun _ h => h ▸ hS) hF rfl rfl 0 rfl ag25 sz25 rfl rfl) ?_
            clear hF; intro a hF
            refine seq_wp (wn_none rfl) (wp_call (vs := [_]) hF rfl rfl rfl rfl cf36 (copied_any st1 _ L1 (rm) _ (hS.rdRo 2 rfl) (by omega)) ?_)
            clear hF; rintro _ w ⟨v301, rfl, hS1⟩ a hF
            replace hS := hS.callB hS1 rfl; clear hS1
            obtain ⟨Av301, cv301, rfl⟩ := hS.form 0 rfl
            refine seq_wp (wn_none rfl) (wp_store (cs' := #[_, _, _]) hF hS rfl rfl rfl rfl 2 rfl sz25 (by simp [Value.cells, Value.oneCell']) (by simp [Value.cells]) rfl ?_)
            clear hF hS; intro a w hF hS
            refine seq_yl hF (wn_none rfl) rfl rfl (yl_assign hF rfl rfl) ?_
            clear hF; intro a hF
            refine wpList_nil ?_
            refine then_n ?_
            refine wp_ret ?_
            refine ret_ct hF rfl (resC hS rfl 2 rfl ag25 sz25) rfl ?_
            exact ⟨_, rfl, _, _, _, _, _, rfl, wrN_end hw hd9 hw9 (by omega), (hS.sub [0] (by decide) (by first | rfl | simp) (by simp))⟩

set_option maxHeartbeats 1000000 in
set_option maxRecDepth 100000 in
theorem flush_any (st : ByteArray) (lv : Value) (L : List E39) (rm : Int) (w0 : World) (hv : Rd w0 2 lv (L).length (cells enc39 (L))) (hz : (st.size : Int) ≤ 9223372036854775807) (hL : L.length ≤ 1000000) :
    Fn Try.prog 21 #[.agg #[.string st, lv, .int .i64 rm]] w0 (fun v w' => ∃ (st1 : ByteArray) (rm1 : Int) (lv1 : Value), v = .agg #[.string st1, lv1, .int .i64 rm1] ∧ flushF st L rm = (st1, rm1) ∧ EmptyV lv1 ∧ Sat w0 w' []) := by
  obtain ⟨Alv, clv, rfl⟩ := Rd.form hv
  refine c_enter (N := 28) (l := [_]) Try.func21 rfl rfl (fun a w hF hS => ?_)
  replace hS := hS.addRo hv
  refine c_seq ?_
  refine c_region ?_
  refine seq_wp (wn_none rfl) (wp_box (cs := #[_, _, _]) hF hS rfl rfl rfl rfl rfl ?_)
  clear hF hS; intro a w g302 hF hS
  refine seq_wp (wn_none rfl) (wp_alloc (cs := #[_, _, _]) hF hS rfl rfl rfl zr25 rfl ?_)
  clear hF hS; intro a w g303 hF hS
  refine wpList_nil ?_
  refine then_n ?_
  refine c_seq ?_
  refine c_seq ?_
  refine c_region ?_
  refine seq_yl hF (wn_none rfl) rfl rfl (yl_loadK (rs := [_, _, _]) (fun _ h => h ▸ hS) hF rfl rfl 1 rfl ag25 sz25 rfl rfl) ?_
  clear hF; intro a hF
  refine seq_wp (wn_none rfl) (wp_call (vs := [_]) hF rfl rfl rfl rfl cf26 (dValid_any st _ L (rm) _ (hS.rdRo 2 rfl) (by first | omega | (simp; done)) (by first | omega | (simp; done))) ?_)
  clear hF; rintro _ w ⟨rfl, hS1⟩ a hF
  replace hS := hS.callB hS1 rfl; clear hS1
  refine seq_yl hF (wn_none rfl) rfl rfl (yl_un hF rfl rfl (fun _ => run_not)) ?_
  clear hF; intro a hF
  refine wpList_nil ?_
  refine then_n ?_
  refine c_cond hF rfl (fun hc304 => ?_) (fun hc304 => ?_)
  · first | (replace hc304 := of_decide_eq_true hc304) | (replace hc304 := of_decide_eq_false (bnot_t hc304)) | (subst hc304) | (replace hc304 := bnot_t hc304; subst hc304) | (replace hc304 := bnot_t hc304) | skip
    try (have hc304x := hc304; simp only [okS, okI, okW, okP] at hc304x)
    refine c_seq ?_
    refine c_region ?_
    refine seq_yl hF (wn_none rfl) rfl rfl (yl_build (parts := []) (vs := []) (cs := [_, _, _]) hF bd25 rfl rfl rfl rfl) ?_
    clear hF; intro a hF
    refine seq_wp (wn_none rfl) (wp_store (cs' := #[_, _, _]) hF hS rfl rfl rfl rfl 0 rfl sz25 (by simp [Value.cells, Value.oneCell']) (by simp [Value.cells]) rfl ?_)
    clear hF hS; intro a w hF hS
    refine wpList_nil ?_
    refine then_n ?_
    refine wp_ret ?_
    refine then_r ?_
    refine ret_c hF rfl (resC hS rfl 0 rfl ag25 sz25) ?_
    exact ⟨_, rfl, _, _, _, rfl, fl_bad (by assumption), EmptyV.nil, (hS.sub [] (by decide) (by first | rfl | simp) (by simp))⟩
  · first | (replace hc304 := of_decide_eq_false hc304) | (replace hc304 := of_decide_eq_true (bnot_f hc304)) | (subst hc304) | (replace hc304 := bnot_f hc304; subst hc304) | (replace hc304 := bnot_f hc304) | skip
    try (have hc304x := hc304; simp only [okS, okI, okW, okP] at hc304x)
    refine wp_skip ?_
    refine then_n ?_
    refine c_seq ?_
    refine c_region ?_
    refine seq_yl hF (wn_none rfl) rfl rfl (yl_loadK (rs := [_, _, _]) (fun _ h => h ▸ hS) hF rfl rfl 1 rfl ag25 sz25 rfl rfl) ?_
    clear hF; intro a hF
    refine seq_yl hF (wn_none rfl) rfl rfl (yl_build (parts := [(0, .tmp 8)]) (vs := [(0, _)]) (cs := [_, _, _]) hF bd57 rfl rfl rfl rfl) ?_
    clear hF; intro a hF
    refine seq_wp (wn_none rfl) (wp_box (cs := #[_, _, _]) hF hS rfl rfl rfl rfl rfl ?_)
    clear hF hS; intro a w g305 hF hS
    refine seq_yl hF (wn_none rfl) rfl rfl (yl_assign hF rfl rfl) ?_
    clear hF; intro a hF
    refine wpList_nil ?_
    refine then_n ?_
    refine c_seq ?_
    refine wp_block ?_
    have hd9 : okD st L rm := by assumption
    refine c_loop (fun m a w => ∃ (st1 : ByteArray) (L1 : List E39) (AvW : Option Addr) (cvW : Nat), m = L1.length ∧ (okD st1 L1 rm ∧ flSt st L = flSt st1 L1) ∧ Fr 28 a [(3, .pointer (some ⟨g305, 0, none⟩)), (2, .pointer (some ⟨g303, 0, none⟩))] ∧ Sat w0 w (.box g305 57 #[.string st1, .slice AvW (L1).length cvW, .int .i64 (rm)] :: .box g303 25 #[.string (⟨#[]⟩ : ByteArray), .slice none 0 0, .int .i64 (0 : Int)] :: .ro 2 (.slice AvW (L1).length cvW) (L1).length (cells enc39 (L1)) :: [])) (L.length) ?_ ?_
    · exact ⟨st, L, Alv, clv, rfl, ⟨hd9, rfl⟩, hF.to [3, 2] rfl, (hS.sub [0, 1, 3] (by decide) (by first | rfl | simp) (by simp))⟩
    · clear hF hS; try clear hSS
      clear a w; rintro m a w ⟨st1, L1, AvW, cvW, rfl, hinv, hF, hS⟩
      obtain ⟨hd1, hfl⟩ := hinv
      have hd1i := okD_I hd1
      refine c_seq ?_
      refine c_seq ?_
      refine c_region ?_
      refine seq_yl hF (wn_none rfl) rfl rfl (yl_move hF rfl rfl) ?_
      clear hF; intro a hF
      refine seq_yl hF (wn_none rfl) rfl rfl (yl_nilCheck hF rfl rfl) ?_
      clear hF; intro a hF
      refine seq_yl hF (wn_none rfl) rfl rfl (yl_fieldAddr hF rfl rfl (fun w => by kernel_rfl : ∀ w, (Instr.fieldAt 57 (.pointer (some ⟨g305, 0, none⟩)) 0).run Try.prog w = .ok (.pointer (some ⟨g305, 0, none⟩)) w)) ?_
      clear hF; intro a hF
      refine seq_yl hF (wn_none rfl) rfl rfl (yl_fieldAddr hF rfl rfl (fun w => by kernel_rfl : ∀ w, (Instr.fieldAt 25 (.pointer (some ⟨g305, 0, none⟩)) 1).run Try.prog w = .ok (.pointer (some ⟨g305, 1, none⟩)) w)) ?_
      clear hF; intro a hF
      refine seq_yl hF (wn_none rfl) rfl rfl (yl_load (fun _ h => h ▸ hS) hF rfl rfl 0 rfl ag23 rfl) ?_
      clear hF; intro a hF
      refine seq_yl hF (wn_none rfl) rfl rfl (yl_len hF rfl rfl (fun _ => run_lenRd sl23 (hS.rdRo 2 rfl))) ?_
      clear hF; intro a hF
      refine seq_yl hF (wn_none rfl) rfl rfl (yl_bin hF rfl rfl rfl rfl (fun _ => run_gtr)) ?_
      clear hF; intro a hF
      refine wpList_nil ?_
      refine then_n ?_
      refine c_cond hF rfl (fun hc306 => ?_) (fun hc306 => ?_)
      · first | (replace hc306 := of_decide_eq_true hc306) | (replace hc306 := of_decide_eq_false (bnot_t hc306)) | (subst hc306) | (replace hc306 := bnot_t hc306; subst hc306) | (replace hc306 := bnot_t hc306) | skip
        try (have hc306x := hc306; simp only [okS, okI, okW, okP] at hc306x)
        refine wp_skip ?_
        refine then_n ?_
        refine wp_block ?_
        refine c_region ?_
        refine seq_yl hF (wn_none rfl) rfl rfl (yl_move hF rfl rfl) ?_
        clear hF; intro a hF
        replace hS := (hS.sub [0, 2, 1] (by decide) (by first | rfl | simp) (by simp))
        obtain ⟨p308, hp308⟩ := get_some (L := L1) (k := 0) (by have h8 := okD_I hd1; omega)
        refine seq_wp (wn_none rfl) (wp_call (vs := [_, _]) hF rfl rfl rfl rfl cf39 (destage_any _ _ _ _ _ _ _ L1 _ 0 p308 hp308 (hd1.2.2.2 _ (List.mem_of_getElem? hp308)) hS (by omega)) ?_)
        clear hF hS; rintro _ w ⟨v307, rfl, hS⟩ a hF
        have hq309k := dest_ok hd1 hp308
        have hq309n := len_selL (s := p308.f0) (old := (fun i => decide (i ≤ ((0 : Nat) : Int)))) L1 0
        have hq309f := fl_step (st := st1) hp308
        obtain ⟨Av307, cv307, rfl⟩ := hS.form 1 rfl
        refine wpList_nil ?_
        refine inb_n ?_
        refine then_n ?_
        replace hS := hS.toRo 1 rfl
        exact ⟨_, (by omega), (wim st1 p308.f0 p308.f1), (selL p308.f0 (fun i => decide (i ≤ ((0 : Nat) : Int))) 0 L1), Av307, cv307, rfl, ⟨hq309k.1, hfl.trans hq309f.1⟩, hF.to [3, 2] rfl, (hS.sub [0, 2, 1] (by decide) (by first | rfl | simp) (by simp))⟩
      · first | (replace hc306 := of_decide_eq_false hc306) | (replace hc306 := of_decide_eq_true (bnot_f hc306)) | (subst hc306) | (replace hc306 := bnot_f hc306; subst hc306) | (replace hc306 := bnot_f hc306) | skip
        try (have hc306x := hc306; simp only [okS, okI, okW, okP] at hc306x)
        refine wp_exit ?_
        refine then_x ?_
        refine then_x ?_
        refine inb_x ?_
        refine then_n ?_
        refine c_seq ?_
        refine c_region ?_
        refine seq_yl hF (wn_none rfl) rfl rfl (yl_move hF rfl rfl) ?_
        clear hF; intro a hF
        refine seq_yl hF (wn_none rfl) rfl rfl (yl_nilCheck hF rfl rfl) ?_
        clear hF; intro a hF
        refine seq_yl hF (wn_none rfl) rfl rfl (yl_fieldAddr hF rfl rfl (fun w => by kernel_rfl : ∀ w, (Instr.fieldAt 57 (.pointer (some ⟨g305, 0, none⟩)) 0).run Try.prog w = .ok (.pointer (some ⟨g305, 0, none⟩)) w)) ?_
        clear hF; intro a hF
        refine seq_yl hF (wn_none rfl) rfl rfl (yl_fieldAddr hF rfl rfl (fun w => by kernel_rfl : ∀ w, (Instr.fieldAt 25 (.pointer (some ⟨g305, 0, none⟩)) 1).run Try.prog w = .ok (.pointer (some ⟨g305, 1, none⟩)) w)) ?_
        clear hF; intro a hF
        refine seq_wp (wn_none rfl) (wp_store (cs' := #[_, _, _]) hF hS rfl rfl rfl rfl 0 rfl sz23 (by simp [Value.cells, Value.oneCell']) (by simp [Value.cells]) rfl ?_)
        clear hF hS; intro a w hF hS
        refine wpList_nil ?_
        refine then_n ?_
        refine c_seq ?_
        refine c_region ?_
        refine seq_yl hF (wn_none rfl) rfl rfl (yl_move hF rfl rfl) ?_
        clear hF; intro a hF
        refine seq_yl hF (wn_none rfl) rfl rfl (yl_nilCheck hF rfl rfl) ?_
        clear hF; intro a hF
        refine seq_yl hF (wn_none rfl) rfl rfl (yl_fieldAddr hF rfl rfl (fun w => by kernel_rfl : ∀ w, (Instr.fieldAt 57 (.pointer (some ⟨g305, 0, none⟩)) 0).run Try.prog w = .ok (.pointer (some ⟨g305, 0, none⟩)) w)) ?_
        clear hF; intro a hF
        refine seq_yl hF (wn_none rfl) rfl rfl (yl_loadK (rs := [_, _, _]) (fun _ h => h ▸ hS) hF rfl rfl 0 rfl ag25 sz25 rfl rfl) ?_
        clear hF; intro a hF
        refine seq_wp (wn_none rfl) (wp_store (cs' := #[_, _, _]) hF hS rfl rfl rfl rfl 1 rfl sz25 (by simp [Value.cells, Value.oneCell']) (by simp [Value.cells]) rfl ?_)
        clear hF hS; intro a w hF hS
        refine wpList_nil ?_
        refine then_n ?_
        refine wp_ret ?_
        refine ret_c hF rfl (resC hS rfl 1 rfl ag25 sz25) ?_
        exact ⟨_, rfl, _, _, _, rfl, flush_end hd9 hfl (by omega), EmptyV.nil, (hS.sub [] (by decide) (by first | rfl | simp) (by simp))⟩

set_option maxHeartbeats 1000000 in
set_option maxRecDepth 100000 in
theorem dest_any (st : ByteArray) (lv : Value) (L : List E39) (rm : Int) (q : Int) (w0 : World) (hv : Rd w0 2 lv (L).length (cells enc39 (L))) (hz : (st.size : Int) ≤ 9223372036854775807) (hL : L.length ≤ 1000000) :
    Fn Try.prog 19 #[.agg #[.string st, lv, .int .i64 rm], .int .i64 q] w0 (fun v w' => ∃ (st1 : ByteArray) (lv1 : Value) (L1 : List E39) (rm1 : Int) (b : Bool), v = .tuple #[.agg #[.string st1, lv1, .int .i64 rm1], .bool b] ∧ destF st L rm q = (st1, L1, rm1, b) ∧ Sat w0 w' [.row 39 2 lv1 (L1).length (cells enc39 (L1))]) := by
  obtain ⟨Alv, clv, rfl⟩ := Rd.form hv
  refine c_enter (N := 32) (l := [_, _]) Try.func19 rfl rfl (fun a w hF hS => ?_)
  replace hS := hS.addRo hv
  refine c_seq ?_
  refine c_region ?_
  refine seq_wp (wn_none rfl) (wp_box (cs := #[_, _, _]) hF hS rfl rfl rfl rfl rfl ?_)
  clear hF hS; intro a w g310 hF hS
  refine seq_wp (wn_none rfl) (wp_alloc (cs := #[_, _, _]) hF hS rfl rfl rfl zr25 rfl ?_)
  clear hF hS; intro a w g311 hF hS
  refine seq_yl hF (wn_none rfl) rfl rfl (yl_assign hF rfl rfl) ?_
  clear hF; intro a hF
  refine wpList_nil ?_
  refine then_n ?_
  refine c_seq ?_
  refine c_seq ?_
  refine c_region ?_
  refine seq_yl hF (wn_none rfl) rfl rfl (yl_loadK (rs := [_, _, _]) (fun _ h => h ▸ hS) hF rfl rfl 1 rfl ag25 sz25 rfl rfl) ?_
  clear hF; intro a hF
  refine seq_wp (wn_none rfl) (wp_call (vs := [_]) hF rfl rfl rfl rfl cf26 (dValid_any st _ L (rm) _ (hS.rdRo 2 rfl) (by first | omega | (simp; done)) (by first | omega | (simp; done))) ?_)
  clear hF; rintro _ w ⟨rfl, hS1⟩ a hF
  replace hS := hS.callB hS1 rfl; clear hS1
  refine seq_yl hF (wn_none rfl) rfl rfl (yl_un hF rfl rfl (fun _ => run_not)) ?_
  clear hF; intro a hF
  refine seq_yl hF (wn_none rfl) rfl rfl (yl_move hF rfl rfl) ?_
  clear hF; intro a hF
  refine fr_split hF (fun hc312 hF => ?_) (fun hc312 hF => ?_)
  · first | (replace hc312 := of_decide_eq_true hc312) | (replace hc312 := of_decide_eq_false (bnot_t hc312)) | (subst hc312) | (replace hc312 := bnot_t hc312; subst hc312) | (replace hc312 := bnot_t hc312) | skip
    try (have hc312x := hc312; simp only [okS, okI, okW, okP] at hc312x)
    refine seq_skip hF (wn_f hF rfl rfl rfl rfl) rfl rfl ?_
    clear hF; intro a hF
    refine seq_skip hF (wn_f hF rfl rfl rfl rfl) rfl rfl ?_
    clear hF; intro a hF
    refine seq_yl hF (wn_none rfl) rfl rfl (yl_pick (u := _) (v := undef) hF rfl rfl (fun _ => rfl) (fun h => by cases h)) ?_
    clear hF; intro a hF
    refine seq_yl hF (wn_none rfl) rfl rfl (yl_move hF rfl rfl) ?_
    clear hF; intro a hF
    refine seq_skip hF (wn_f hF rfl rfl rfl rfl) rfl rfl ?_
    clear hF; intro a hF
    refine seq_skip hF (wn_f hF rfl rfl rfl rfl) rfl rfl ?_
    clear hF; intro a hF
    refine seq_skip hF (wn_f hF rfl rfl rfl rfl) rfl rfl ?_
    clear hF; intro a hF
    refine seq_skip hF (wn_f hF rfl rfl rfl rfl) rfl rfl ?_
    clear hF; intro a hF
    refine seq_skip hF (wn_f hF rfl rfl rfl rfl) rfl rfl ?_
    clear hF; intro a hF
    refine seq_yl hF (wn_none rfl) rfl rfl (yl_pick (u := _) (v := undef) hF rfl rfl (fun _ => rfl) (fun h => by cases h)) ?_
    clear hF; intro a hF
    refine wpList_nil ?_
    refine then_n ?_
    refine c_cond_t hF rfl ?_
    refine c_seq ?_
    refine c_region ?_
    refine seq_yl hF (wn_none rfl) rfl rfl (yl_build (parts := []) (vs := []) (cs := [_, _, _]) hF bd25 rfl rfl rfl rfl) ?_
    clear hF; intro a hF
    refine seq_wp (wn_none rfl) (wp_store (cs' := #[_, _, _]) hF hS rfl rfl rfl rfl 0 rfl sz25 (by simp [Value.cells, Value.oneCell']) (by simp [Value.cells]) rfl ?_)
    clear hF hS; intro a w hF hS
    refine seq_yl hF (wn_none rfl) rfl rfl (yl_assign hF rfl rfl) ?_
    clear hF; intro a hF
    refine wpList_nil ?_
    refine then_n ?_
    refine wp_ret ?_
    refine then_r ?_
    refine ret_ct hF rfl (resC hS rfl 0 rfl ag25 sz25) rfl ?_
    replace hS := hS.addNil 39 2
    exact ⟨_, rfl, _, _, [], _, _, rfl, ds_bad (fun h9 => by have h8 := h9.2; first | exact absurd h9.1 (by assumption) | omega), (hS.sub [0] (by decide) (by first | rfl | simp) (by simp))⟩
  · first | (replace hc312 := of_decide_eq_false hc312) | (replace hc312 := of_decide_eq_true (bnot_f hc312)) | (subst hc312) | (replace hc312 := bnot_f hc312; subst hc312) | (replace hc312 := bnot_f hc312) | skip
    try (have hc312x := hc312; simp only [okS, okI, okW, okP] at hc312x)
    refine seq_yl hF (wn_t hF rfl rfl rfl rfl) rfl rfl (yl_move hF rfl rfl) ?_
    clear hF; intro a hF
    refine seq_yl hF (wn_t hF rfl rfl rfl rfl) rfl rfl (yl_bin hF rfl rfl rfl rfl (fun _ => run_lss)) ?_
    clear hF; intro a hF
    refine seq_yl hF (wn_none rfl) rfl rfl (yl_pick (u := _) (v := undef) hF rfl rfl (fun h => by cases h) (fun _ => rfl)) ?_
    clear hF; intro a hF
    refine seq_yl hF (wn_none rfl) rfl rfl (yl_move hF rfl rfl) ?_
    clear hF; intro a hF
    refine fr_split hF (fun hc314 hF => ?_) (fun hc314 hF => ?_)
    · first | (replace hc314 := of_decide_eq_true hc314) | (replace hc314 := of_decide_eq_false (bnot_t hc314)) | (subst hc314) | (replace hc314 := bnot_t hc314; subst hc314) | (replace hc314 := bnot_t hc314) | skip
      try (have hc314x := hc314; simp only [okS, okI, okW, okP] at hc314x)
      refine seq_skip hF (wn_f hF rfl rfl rfl rfl) rfl rfl ?_
      clear hF; intro a hF
      refine seq_skip hF (wn_f hF rfl rfl rfl rfl) rfl rfl ?_
      clear hF; intro a hF
      refine seq_skip hF (wn_f hF rfl rfl rfl rfl) rfl rfl ?_
      clear hF; intro a hF
      refine seq_skip hF (wn_f hF rfl rfl rfl rfl) rfl rfl ?_
      clear hF; intro a hF
      refine seq_skip hF (wn_f hF rfl rfl rfl rfl) rfl rfl ?_
      clear hF; intro a hF
      refine seq_yl hF (wn_none rfl) rfl rfl (yl_pick (u := _) (v := undef) hF rfl rfl (fun _ => rfl) (fun h => by cases h)) ?_
      clear hF; intro a hF
      refine wpList_nil ?_
      refine then_n ?_
      refine c_cond_t hF rfl ?_
      refine c_seq ?_
      refine c_region ?_
      refine seq_yl hF (wn_none rfl) rfl rfl (yl_build (parts := []) (vs := []) (cs := [_, _, _]) hF bd25 rfl rfl rfl rfl) ?_
      clear hF; intro a hF
      refine seq_wp (wn_none rfl) (wp_store (cs' := #[_, _, _]) hF hS rfl rfl rfl rfl 0 rfl sz25 (by simp [Value.cells, Value.oneCell']) (by simp [Value.cells]) rfl ?_)
      clear hF hS; intro a w hF hS
      refine seq_yl hF (wn_none rfl) rfl rfl (yl_assign hF rfl rfl) ?_
      clear hF; intro a hF
      refine wpList_nil ?_
      refine then_n ?_
      refine wp_ret ?_
      refine then_r ?_
      refine ret_ct hF rfl (resC hS rfl 0 rfl ag25 sz25) rfl ?_
      replace hS := hS.addNil 39 2
      exact ⟨_, rfl, _, _, [], _, _, rfl, ds_bad (fun h9 => by have h8 := h9.2; first | exact absurd h9.1 (by assumption) | omega), (hS.sub [0] (by decide) (by first | rfl | simp) (by simp))⟩
    · first | (replace hc314 := of_decide_eq_false hc314) | (replace hc314 := of_decide_eq_true (bnot_f hc314)) | (subst hc314) | (replace hc314 := bnot_f hc314; subst hc314) | (replace hc314 := bnot_f hc314) | skip
      try (have hc314x := hc314; simp only [okS, okI, okW, okP] at hc314x)
      refine seq_yl hF (wn_t hF rfl rfl rfl rfl) rfl rfl (yl_move hF rfl rfl) ?_
      clear hF; intro a hF
      refine seq_yl hF (wn_t hF rfl rfl rfl rfl) rfl rfl (yl_fieldAddr hF rfl rfl (fun w => by kernel_rfl : ∀ w, (Instr.fieldAt 25 (.pointer (some ⟨g310, 0, none⟩)) 1).run Try.prog w = .ok (.pointer (some ⟨g310, 1, none⟩)) w)) ?_
      clear hF; intro a hF
      refine seq_yl hF (wn_t hF rfl rfl rfl rfl) rfl rfl (yl_load (fun _ h => h ▸ hS) hF rfl rfl 1 rfl ag23 rfl) ?_
      clear hF; intro a hF
      refine seq_yl hF (wn_t hF rfl rfl rfl rfl) rfl rfl (yl_len hF rfl rfl (fun _ => run_lenRd sl23 (hS.rdRo 2 rfl))) ?_
      clear hF; intro a hF
      refine seq_yl hF (wn_t hF rfl rfl rfl rfl) rfl rfl (yl_bin hF rfl rfl rfl rfl (fun _ => run_geq)) ?_
      clear hF; intro a hF
      refine seq_yl hF (wn_none rfl) rfl rfl (yl_pick (u := _) (v := undef) hF rfl rfl (fun h => by cases h) (fun _ => rfl)) ?_
      clear hF; intro a hF
      refine wpList_nil ?_
      refine then_n ?_
      refine c_cond hF rfl (fun hc316 => ?_) (fun hc316 => ?_)
      · first | (replace hc316 := of_decide_eq_true hc316) | (replace hc316 := of_decide_eq_false (bnot_t hc316)) | (subst hc316) | (replace hc316 := bnot_t hc316; subst hc316) | (replace hc316 := bnot_t hc316) | skip
        try (have hc316x := hc316; simp only [okS, okI, okW, okP] at hc316x)
        refine c_seq ?_
        refine c_region ?_
        refine seq_yl hF (wn_none rfl) rfl rfl (yl_build (parts := []) (vs := []) (cs := [_, _, _]) hF bd25 rfl rfl rfl rfl) ?_
        clear hF; intro a hF
        refine seq_wp (wn_none rfl) (wp_store (cs' := #[_, _, _]) hF hS rfl rfl rfl rfl 0 rfl sz25 (by simp [Value.cells, Value.oneCell']) (by simp [Value.cells]) rfl ?_)
        clear hF hS; intro a w hF hS
        refine seq_yl hF (wn_none rfl) rfl rfl (yl_assign hF rfl rfl) ?_
        clear hF; intro a hF
        refine wpList_nil ?_
        refine then_n ?_
        refine wp_ret ?_
        refine then_r ?_
        refine ret_ct hF rfl (resC hS rfl 0 rfl ag25 sz25) rfl ?_
        replace hS := hS.addNil 39 2
        exact ⟨_, rfl, _, _, [], _, _, rfl, ds_bad (fun h9 => by have h8 := h9.2; first | exact absurd h9.1 (by assumption) | omega), (hS.sub [0] (by decide) (by first | rfl | simp) (by simp))⟩
      · first | (replace hc316 := of_decide_eq_false hc316) | (replace hc316 := of_decide_eq_true (bnot_f hc316)) | (subst hc316) | (replace hc316 := bnot_f hc316; subst hc316) | (replace hc316 := bnot_f hc316) | skip
        try (have hc316x := hc316; simp only [okS, okI, okW, okP] at hc316x)
        refine wp_skip ?_
        refine then_n ?_
        refine c_seq ?_
        refine c_region ?_
        obtain ⟨kk, rfl⟩ : ∃ n : Nat, q = (n : Int) := ⟨q.toNat, by omega⟩
        refine seq_yl hF (wn_none rfl) rfl rfl (yl_loadK (rs := [_, _, _]) (fun _ h => h ▸ hS) hF rfl rfl 1 rfl ag25 sz25 rfl rfl) ?_
        clear hF; intro a hF
        refine seq_yl hF (wn_none rfl) rfl rfl (yl_build (parts := [(0, .tmp 22)]) (vs := [(0, _)]) (cs := [_, _, _]) hF bd57 rfl rfl rfl rfl) ?_
        clear hF; intro a hF
        refine seq_wp (wn_none rfl) (wp_box (cs := #[_, _, _]) hF hS rfl rfl rfl rfl rfl ?_)
        clear hF hS; intro a w g318 hF hS
        refine seq_yl hF (wn_none rfl) rfl rfl (yl_assign hF rfl rfl) ?_
        clear hF; intro a hF
        refine wpList_nil ?_
        refine then_n ?_
        refine c_seq ?_
        refine c_region ?_
        refine seq_yl hF (wn_none rfl) rfl rfl (yl_move hF rfl rfl) ?_
        clear hF; intro a hF
        refine seq_yl hF (wn_none rfl) rfl rfl (yl_move hF rfl rfl) ?_
        clear hF; intro a hF
        replace hS := (hS.sub [0, 3, 1, 2] (by decide) (by first | rfl | simp) (by simp))
        obtain ⟨p320, hp320⟩ := get_some (L := L) (k := kk) (by have h8 := okD_I (‹okD st L rm› : okD st L rm); omega)
        refine seq_wp (wn_none rfl) (wp_call (vs := [_, _]) hF rfl rfl rfl rfl cf39 (destage_any _ _ _ _ _ _ _ L _ kk p320 hp320 ((‹okD st L rm› : okD st L rm).2.2.2 _ (List.mem_of_getElem? hp320)) hS (by omega)) ?_)
        clear hF hS; rintro _ w ⟨v319, rfl, hS⟩ a hF
        have hq321k := dest_ok (‹okD st L rm› : okD st L rm) hp320
        have hq321n := len_selL (s := p320.f0) (old := (fun i => decide (i ≤ ((kk : Nat) : Int)))) L 0
        obtain ⟨Av319, cv319, rfl⟩ := hS.form 1 rfl
        refine wpList_nil ?_
        refine then_n ?_
        refine c_seq ?_
        refine c_region ?_
        refine seq_yl hF (wn_none rfl) rfl rfl (yl_move hF rfl rfl) ?_
        clear hF; intro a hF
        refine seq_yl hF (wn_none rfl) rfl rfl (yl_nilCheck hF rfl rfl) ?_
        clear hF; intro a hF
        refine seq_yl hF (wn_none rfl) rfl rfl (yl_fieldAddr hF rfl rfl (fun w => by kernel_rfl : ∀ w, (Instr.fieldAt 57 (.pointer (some ⟨g318, 0, none⟩)) 0).run Try.prog w = .ok (.pointer (some ⟨g318, 0, none⟩)) w)) ?_
        clear hF; intro a hF
        refine seq_yl hF (wn_none rfl) rfl rfl (yl_loadK (rs := [_, _, _]) (fun _ h => h ▸ hS) hF rfl rfl 0 rfl ag25 sz25 rfl rfl) ?_
        clear hF; intro a hF
        refine seq_wp (wn_none rfl) (wp_store (cs' := #[_, _, _]) hF hS rfl rfl rfl rfl 2 rfl sz25 (by simp [Value.cells, Value.oneCell']) (by simp [Value.cells]) rfl ?_)
        clear hF hS; intro a w hF hS
        refine seq_yl hF (wn_none rfl) rfl rfl (yl_assign hF rfl rfl) ?_
        clear hF; intro a hF
        refine wpList_nil ?_
        refine then_n ?_
        refine wp_ret ?_
        refine ret_ct hF rfl (resC hS rfl 2 rfl ag25 sz25) rfl ?_
        exact ⟨_, rfl, _, _, _, _, _, rfl, destF_at (‹okD st L rm› : okD st L rm) hp320, (hS.sub [1] (by decide) (by first | rfl | simp) (by simp))⟩

end Go.Proofs.Yteidhjdkaaddgaa

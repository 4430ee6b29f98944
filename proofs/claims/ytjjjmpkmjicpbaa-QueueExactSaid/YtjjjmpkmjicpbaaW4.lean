/- walks, printed by wip/gen -/
import Derived.Test.YtjjjmpkmjicpbaaW2
import Derived.Test.YtjjjmpkmjicpbaaW3
namespace Go.Proofs.Ytjjjmpkmjicpbaa
open Go.RowKit
set_option linter.unusedVariables false
set_option linter.unusedSimpArgs false

theorem push_any (q : Qu) (b e m now : Int) (c : E39) (v : Value) (w0 : World) (hv : Rd w0 12 v (q.L).length (cells enc39 (q.L))) (hL : q.L.length ≤ 1000000) :
    Fn Try.prog 13 #[.agg #[.int .i64 q.d, .int .i64 q.h, .int .i64 q.f, v], .agg #[.int .i64 b, .int .i64 e, .int .i64 m], .int .i64 now, .agg #[.int .i64 c.f0, .int .i64 c.f1, .int .i64 c.f2, .int .i64 c.f3, .string c.f4, .bool c.f5, .int .i64 c.f6, .int .i64 c.f7, .int .i64 c.f8, .int .i64 c.f9, .bool c.f10, .int .i64 c.f11]] w0 (fun v w' => ∃ (d h f er : Int) (v1 : Value) (L1 : List E39), v = .tuple #[.agg #[.int .i64 d, .int .i64 h, .int .i64 f, v1], .int .i64 er] ∧ pushF q b e m now c = (⟨d, h, f, L1⟩, er) ∧ Sat w0 w' [.row 39 12 v1 (L1).length (cells enc39 (L1))]) := by
  obtain ⟨Av, cv, rfl⟩ := Rd.form hv
  refine c_enter (N := 81) (l := [_, _, _, _]) Try.func13 rfl rfl (fun a w hF hS => ?_)
  replace hS := hS.addRo hv
  refine c_seq ?_
  refine c_region ?_
  refine seq_wp (wn_none rfl) (wp_box (cs := #[_, _, _, _]) hF hS rfl rfl rfl rfl rfl ?_)
  clear hF hS; intro a w g58 hF hS
  refine seq_wp (wn_none rfl) (wp_box (cs := #[_, _, _]) hF hS rfl rfl rfl rfl rfl ?_)
  clear hF hS; intro a w g59 hF hS
  refine seq_wp (wn_none rfl) (wp_box (cs := #[_, _, _, _, _, _, _, _, _, _, _, _]) hF hS rfl rfl rfl rfl rfl ?_)
  clear hF hS; intro a w g60 hF hS
  refine seq_wp (wn_none rfl) (wp_alloc (cs := #[_, _, _, _]) hF hS rfl rfl rfl zr25 rfl ?_)
  clear hF hS; intro a w g61 hF hS
  refine seq_yl hF (wn_none rfl) rfl rfl (yl_assign hF rfl rfl) ?_
  clear hF; intro a hF
  refine wpList_nil ?_
  refine then_n ?_
  refine c_seq ?_
  refine wp_block ?_
  refine c_seq ?_
  refine c_region ?_
  refine seq_yl hF (wn_none rfl) rfl rfl (yl_loadK (rs := [_, _, _, _]) (fun _ h => h ▸ hS) hF rfl rfl 3 rfl ag25 sz25 rfl rfl) ?_
  clear hF; intro a hF
  refine seq_yl hF (wn_none rfl) rfl rfl (yl_loadK (rs := [_, _, _]) (fun _ h => h ▸ hS) hF rfl rfl 2 rfl ag27 sz27 rfl rfl) ?_
  clear hF; intro a hF
  refine seq_yl hF (wn_none rfl) rfl rfl (yl_move hF rfl rfl) ?_
  clear hF; intro a hF
  refine seq_yl hF (wn_none rfl) rfl rfl (yl_loadK (rs := [_, _, _, _, _, _, _, _, _, _, _, _]) (fun _ h => h ▸ hS) hF rfl rfl 1 rfl ag39 sz39 rfl rfl) ?_
  clear hF; intro a hF
  refine seq_wp (wn_none rfl) (wp_call (vs := [_, _, _, _]) hF rfl rfl rfl rfl cf29 (invalid_any (Qu.mk (q.d) (q.h) (q.f) q.L) (b) (e) (m) (now) c _ _ (hS.rdRo 4 rfl) (by first | omega | (simp; done) | (simp; omega))) ?_)
  clear hF; rintro _ w ⟨rfl, hS1⟩ a hF
  replace hS := hS.callB hS1 rfl; clear hS1
  refine seq_yl hF (wn_none rfl) rfl rfl (yl_assign hF rfl rfl) ?_
  clear hF; intro a hF
  refine wpList_nil ?_
  refine then_n ?_
  refine c_cond hF rfl (fun hc62 => ?_) (fun hc62 => ?_)
  · first | (replace hc62 := of_decide_eq_true hc62) | (replace hc62 := of_decide_eq_false (bnot_t hc62)) | (subst hc62) | (replace hc62 := bnot_t hc62; subst hc62) | (replace hc62 := bnot_t hc62) | skip
    refine c_seq ?_
    refine c_region ?_
    refine seq_yl hF (wn_none rfl) rfl rfl (yl_build (parts := []) (vs := []) (cs := [_, _, _, _]) hF bd25 rfl rfl rfl rfl) ?_
    clear hF; intro a hF
    refine seq_wp (wn_none rfl) (wp_store (cs' := #[_, _, _, _]) hF hS rfl rfl rfl rfl 0 rfl sz25 (by simp [Value.cells, Value.oneCell']) (by simp [Value.cells]) rfl ?_)
    clear hF hS; intro a w hF hS
    refine seq_yl hF (wn_none rfl) rfl rfl (yl_assign hF rfl rfl) ?_
    clear hF; intro a hF
    refine wpList_nil ?_
    refine then_n ?_
    refine wp_ret ?_
    refine inb_r ?_
    refine then_r ?_
    refine ret_ct hF rfl (resC hS rfl 0 rfl ag25 sz25) rfl ?_
    replace hS := hS.addNil 39 12
    exact ⟨_, rfl, _, _, _, _, _, _, rfl, push_1 (by first | assumption | (unfold okP; omega)), (hS.sub [0] (by decide) (by first | rfl | simp) (by simp))⟩
  · first | (replace hc62 := of_decide_eq_false hc62) | (replace hc62 := of_decide_eq_true (bnot_f hc62)) | (subst hc62) | (replace hc62 := bnot_f hc62; subst hc62) | (replace hc62 := bnot_f hc62) | skip
    refine c_seq ?_
    refine c_region ?_
    have hok : okP b e m q.h q.f now c.f1 c.f2 c.f3 c.f11 := by first | assumption | (unfold okP; omega)
    have hok2 := hok; unfold okP at hok2
    refine seq_yl hF (wn_none rfl) rfl rfl (yl_fieldAddr hF rfl rfl (fun w => by kernel_rfl : ∀ w, (Instr.fieldAt 25 (.pointer (some ⟨g58, 0, none⟩)) 3).run Try.prog w = .ok (.pointer (some ⟨g58, 3, none⟩)) w)) ?_
    clear hF; intro a hF
    refine seq_yl hF (wn_none rfl) rfl rfl (yl_load (fun _ h => h ▸ hS) hF rfl rfl 3 rfl ag23 rfl) ?_
    clear hF; intro a hF
    refine seq_yl hF (wn_none rfl) rfl rfl (yl_makeFunc (vs := [_]) hF rfl rfl) ?_
    clear hF; intro a hF
    refine seq_wp (wn_none rfl) (wp_call (vs := [_, _]) hF rfl rfl rfl rfl cf30 (containsC_any (k := 31) (caps := [.pointer (some ⟨g60, 0, none⟩)]) (p := (fun x : E39 => decide (x.f0 = (c.f0)))) _ _ _ q.L cf31 (fun x w h => clPush _ _ _ 1 g60 (E39.mk (c.f0) (c.f1) (c.f2) (c.f3) c.f4 c.f5 (c.f6) (c.f7) (c.f8) (c.f9) c.f10 (c.f11)) rfl x h) (fun w h => Sat.rdRo h 4 rfl) hS (by first | omega | (simp; done) | (simp; omega))) ?_)
    clear hF hS; rintro _ w ⟨rfl, hS⟩ a hF
    refine seq_yl hF (wn_none rfl) rfl rfl (yl_assign hF rfl rfl) ?_
    clear hF; intro a hF
    refine wpList_nil ?_
    refine then_n ?_
    refine c_cond hF rfl (fun hc64 => ?_) (fun hc64 => ?_)
    · first | (replace hc64 := of_decide_eq_true hc64) | (replace hc64 := of_decide_eq_false (bnot_t hc64)) | (subst hc64) | (replace hc64 := bnot_t hc64; subst hc64) | (replace hc64 := bnot_t hc64) | skip
      refine c_seq ?_
      refine c_region ?_
      refine seq_yl hF (wn_none rfl) rfl rfl (yl_build (parts := []) (vs := []) (cs := [_, _, _, _]) hF bd25 rfl rfl rfl rfl) ?_
      clear hF; intro a hF
      refine seq_wp (wn_none rfl) (wp_store (cs' := #[_, _, _, _]) hF hS rfl rfl rfl rfl 0 rfl sz25 (by simp [Value.cells, Value.oneCell']) (by simp [Value.cells]) rfl ?_)
      clear hF hS; intro a w hF hS
      refine seq_yl hF (wn_none rfl) rfl rfl (yl_assign hF rfl rfl) ?_
      clear hF; intro a hF
      refine wpList_nil ?_
      refine then_n ?_
      refine wp_ret ?_
      refine inb_r ?_
      refine then_r ?_
      refine ret_ct hF rfl (resC hS rfl 0 rfl ag25 sz25) rfl ?_
      replace hS := hS.addNil 39 12
      exact ⟨_, rfl, _, _, _, _, _, _, rfl, push_5 hok (by first | assumption | exact (cont_idx _ _).symm.trans (decide_eq_true (by assumption))), (hS.sub [0] (by decide) (by first | rfl | simp) (by simp))⟩
    · first | (replace hc64 := of_decide_eq_false hc64) | (replace hc64 := of_decide_eq_true (bnot_f hc64)) | (subst hc64) | (replace hc64 := bnot_f hc64; subst hc64) | (replace hc64 := bnot_f hc64) | skip
      refine c_seq ?_
      refine c_region ?_
      refine seq_yl hF (wn_none rfl) rfl rfl (yl_fieldAddr hF rfl rfl (fun w => by kernel_rfl : ∀ w, (Instr.fieldAt 25 (.pointer (some ⟨g58, 0, none⟩)) 3).run Try.prog w = .ok (.pointer (some ⟨g58, 3, none⟩)) w)) ?_
      clear hF; intro a hF
      refine seq_yl hF (wn_none rfl) rfl rfl (yl_load (fun _ h => h ▸ hS) hF rfl rfl 3 rfl ag23 rfl) ?_
      clear hF; intro a hF
      refine seq_yl hF (wn_none rfl) rfl rfl (yl_len hF rfl rfl (fun _ => run_lenRd sl23 (hS.rdRo 4 rfl))) ?_
      clear hF; intro a hF
      refine seq_yl hF (wn_none rfl) rfl rfl (yl_fieldAddr hF rfl rfl (fun w => by kernel_rfl : ∀ w, (Instr.fieldAt 25 (.pointer (some ⟨g58, 0, none⟩)) 0).run Try.prog w = .ok (.pointer (some ⟨g58, 0, none⟩)) w)) ?_
      clear hF; intro a hF
      refine seq_yl hF (wn_none rfl) rfl rfl (yl_load (fun _ h => h ▸ hS) hF rfl rfl 3 rfl ag3 rfl) ?_
      clear hF; intro a hF
      refine seq_yl hF (wn_none rfl) rfl rfl (yl_min2 hF rfl rfl rfl) ?_
      clear hF; intro a hF
      refine seq_yl hF (wn_none rfl) rfl rfl (yl_bin hF rfl rfl rfl rfl (fun _ => run_geq)) ?_
      clear hF; intro a hF
      refine seq_yl hF (wn_none rfl) rfl rfl (yl_assign hF rfl rfl) ?_
      clear hF; intro a hF
      refine wpList_nil ?_
      refine then_n ?_
      refine c_cond hF rfl (fun hc66 => ?_) (fun hc66 => ?_)
      · first | (replace hc66 := of_decide_eq_true hc66) | (replace hc66 := of_decide_eq_false (bnot_t hc66)) | (subst hc66) | (replace hc66 := bnot_t hc66; subst hc66) | (replace hc66 := bnot_t hc66) | skip
        refine c_seq ?_
        refine c_region ?_
        refine seq_yl hF (wn_none rfl) rfl rfl (yl_build (parts := []) (vs := []) (cs := [_, _, _, _]) hF bd25 rfl rfl rfl rfl) ?_
        clear hF; intro a hF
        refine seq_wp (wn_none rfl) (wp_store (cs' := #[_, _, _, _]) hF hS rfl rfl rfl rfl 0 rfl sz25 (by simp [Value.cells, Value.oneCell']) (by simp [Value.cells]) rfl ?_)
        clear hF hS; intro a w hF hS
        refine seq_yl hF (wn_none rfl) rfl rfl (yl_assign hF rfl rfl) ?_
        clear hF; intro a hF
        refine wpList_nil ?_
        refine then_n ?_
        refine wp_ret ?_
        refine inb_r ?_
        refine then_r ?_
        refine ret_ct hF rfl (resC hS rfl 0 rfl ag25 sz25) rfl ?_
        replace hS := hS.addNil 39 12
        exact ⟨_, rfl, _, _, _, _, _, _, rfl, push_3 hok (by first | assumption | exact (cont_idx _ _).symm.trans (decide_eq_false (by assumption))) (by omega), (hS.sub [0] (by decide) (by first | rfl | simp) (by simp))⟩
      · first | (replace hc66 := of_decide_eq_false hc66) | (replace hc66 := of_decide_eq_true (bnot_f hc66)) | (subst hc66) | (replace hc66 := bnot_f hc66; subst hc66) | (replace hc66 := bnot_f hc66) | skip
        refine wp_skip ?_
        refine inb_n ?_
        refine then_n ?_
        refine c_seq ?_
        refine c_region ?_
        refine seq_yl hF (wn_none rfl) rfl rfl (yl_move hF rfl rfl) ?_
        clear hF; intro a hF
        refine seq_yl hF (wn_none rfl) rfl rfl (yl_fieldAddr hF rfl rfl (fun w => by kernel_rfl : ∀ w, (Instr.fieldAt 25 (.pointer (some ⟨g58, 0, none⟩)) 2).run Try.prog w = .ok (.pointer (some ⟨g58, 2, none⟩)) w)) ?_
        clear hF; intro a hF
        refine seq_yl hF (wn_none rfl) rfl rfl (yl_load (fun _ h => h ▸ hS) hF rfl rfl 3 rfl ag3 rfl) ?_
        clear hF; intro a hF
        refine seq_yl hF (wn_none rfl) rfl rfl (yl_max2 hF rfl rfl rfl) ?_
        clear hF; intro a hF
        refine seq_yl hF (wn_none rfl) rfl rfl (yl_fieldAddr hF rfl rfl (fun w => by kernel_rfl : ∀ w, (Instr.fieldAt 39 (.pointer (some ⟨g60, 0, none⟩)) 6).run Try.prog w = .ok (.pointer (some ⟨g60, 6, none⟩)) w)) ?_
        clear hF; intro a hF
        refine seq_wp (wn_none rfl) (wp_store (cs' := #[_, _, _, _, _, _, _, _, _, _, _, _]) hF hS rfl rfl rfl rfl 1 rfl sz3 (by simp [Value.cells, Value.oneCell']) (by simp [Value.cells]) rfl ?_)
        clear hF hS; intro a w hF hS
        refine seq_yl hF (wn_none rfl) rfl rfl (yl_fieldAddr hF rfl rfl (fun w => by kernel_rfl : ∀ w, (Instr.fieldAt 39 (.pointer (some ⟨g60, 0, none⟩)) 7).run Try.prog w = .ok (.pointer (some ⟨g60, 7, none⟩)) w)) ?_
        clear hF; intro a hF
        refine seq_wp (wn_none rfl) (wp_store (cs' := #[_, _, _, _, _, _, _, _, _, _, _, _]) hF hS rfl rfl rfl rfl 1 rfl sz3 (by simp [Value.cells, Value.oneCell']) (by simp [Value.cells]) rfl ?_)
        clear hF hS; intro a w hF hS
        refine wpList_nil ?_
        refine then_n ?_
        refine c_seq ?_
        refine c_seq ?_
        refine c_region ?_
        refine seq_yl hF (wn_none rfl) rfl rfl (yl_fieldAddr hF rfl rfl (fun w => by kernel_rfl : ∀ w, (Instr.fieldAt 39 (.pointer (some ⟨g60, 0, none⟩)) 8).run Try.prog w = .ok (.pointer (some ⟨g60, 8, none⟩)) w)) ?_
        clear hF; intro a hF
        refine seq_yl hF (wn_none rfl) rfl rfl (yl_fieldAddr hF rfl rfl (fun w => by kernel_rfl : ∀ w, (Instr.fieldAt 34 (.pointer (some ⟨g60, 8, none⟩)) 0).run Try.prog w = .ok (.pointer (some ⟨g60, 8, none⟩)) w)) ?_
        clear hF; intro a hF
        refine seq_yl hF (wn_none rfl) rfl rfl (yl_load (fun _ h => h ▸ hS) hF rfl rfl 1 rfl ag32 rfl) ?_
        clear hF; intro a hF
        refine seq_yl hF (wn_none rfl) rfl rfl (yl_bin hF rfl rfl rfl rfl (fun _ => run_neq)) ?_
        clear hF; intro a hF
        refine wpList_nil ?_
        refine then_n ?_
        refine c_cond hF rfl (fun hc68 => ?_) (fun hc68 => ?_)
        · first | (replace hc68 := of_decide_eq_true hc68) | (replace hc68 := of_decide_eq_false (bnot_t hc68)) | (subst hc68) | (replace hc68 := bnot_t hc68; subst hc68) | (replace hc68 := bnot_t hc68) | skip
          refine c_seq ?_
          refine ha_startS hS [1, 2, 3] 18 (by kernel_rfl) ?_; clear hS; intro w hS
          have hSS := hS.sub [1, 2, 3] (by decide) rfl (by simp)
          refine ha_y 0 hF rfl rfl rfl (wn_none rfl) (.inr hSS) (yl_fieldAddr hF rfl rfl (fun w => by kernel_rfl : ∀ w, (Instr.fieldAt 39 (.pointer (some ⟨g60, 0, none⟩)) 6).run Try.prog w = .ok (.pointer (some ⟨g60, 6, none⟩)) w)) ?_
          clear hF; intro a hF
          refine ha_y 3 hF rfl rfl rfl (wn_none rfl) (.inr hSS) (yl_fieldAddr hF rfl rfl (fun w => by kernel_rfl : ∀ w, (Instr.fieldAt 25 (.pointer (some ⟨g58, 0, none⟩)) 1).run Try.prog w = .ok (.pointer (some ⟨g58, 1, none⟩)) w)) ?_
          clear hF; intro a hF
          refine ha_y 5 hF rfl rfl rfl (wn_none rfl) (.inr hSS) (yl_fieldAddr hF rfl rfl (fun w => by kernel_rfl : ∀ w, (Instr.fieldAt 39 (.pointer (some ⟨g60, 0, none⟩)) 1).run Try.prog w = .ok (.pointer (some ⟨g60, 1, none⟩)) w)) ?_
          clear hF; intro a hF
          refine ha_y 7 hF rfl rfl rfl (wn_none rfl) (.inr hSS) (yl_fieldAddr hF rfl rfl (fun w => by kernel_rfl : ∀ w, (Instr.fieldAt 39 (.pointer (some ⟨g60, 0, none⟩)) 2).run Try.prog w = .ok (.pointer (some ⟨g60, 2, none⟩)) w)) ?_
          clear hF; intro a hF
          refine ha_y 9 hF rfl rfl rfl (wn_none rfl) (.inr hSS) (yl_fieldAddr hF rfl rfl (fun w => by kernel_rfl : ∀ w, (Instr.fieldAt 39 (.pointer (some ⟨g60, 0, none⟩)) 3).run Try.prog w = .ok (.pointer (some ⟨g60, 3, none⟩)) w)) ?_
          clear hF; intro a hF
          refine ha_y 13 hF rfl rfl rfl (wn_none rfl) (.inr hSS) (yl_fieldAddr hF rfl rfl (fun w => by kernel_rfl : ∀ w, (Instr.fieldAt 39 (.pointer (some ⟨g60, 0, none⟩)) 8).run Try.prog w = .ok (.pointer (some ⟨g60, 8, none⟩)) w)) ?_
          clear hF; intro a hF
          refine ha_y 14 hF rfl rfl rfl (wn_none rfl) (.inr hSS) (yl_fieldAddr hF rfl rfl (fun w => by kernel_rfl : ∀ w, (Instr.fieldAt 34 (.pointer (some ⟨g60, 8, none⟩)) 3).run Try.prog w = .ok (.pointer (some ⟨g60, 11, none⟩)) w)) ?_
          clear hF; intro a hF
          refine ha_l 1 hF rfl rfl rfl (wn_none rfl) hSS (yl_load (fun _ h => h) hF rfl rfl 0 rfl ag3 rfl) ?_
          clear hF; intro a hF
          refine ha_l 2 hF rfl rfl rfl (wn_none rfl) hSS (yl_loadK (rs := [_, _, _]) (fun _ h => h) hF rfl rfl 1 rfl ag27 sz27 rfl rfl) ?_
          clear hF; intro a hF
          refine ha_l 4 hF rfl rfl rfl (wn_none rfl) hSS (yl_load (fun _ h => h) hF rfl rfl 2 rfl ag3 rfl) ?_
          clear hF; intro a hF
          refine ha_l 6 hF rfl rfl rfl (wn_none rfl) hSS (yl_load (fun _ h => h) hF rfl rfl 0 rfl ag3 rfl) ?_
          clear hF; intro a hF
          refine ha_l 8 hF rfl rfl rfl (wn_none rfl) hSS (yl_load (fun _ h => h) hF rfl rfl 0 rfl ag3 rfl) ?_
          clear hF; intro a hF
          refine ha_l 10 hF rfl rfl rfl (wn_none rfl) hSS (yl_load (fun _ h => h) hF rfl rfl 0 rfl ag3 rfl) ?_
          clear hF; intro a hF
          have hci := cost_in b e m q.h c.f1 c.f2 c.f3
          refine ha_l 15 hF rfl rfl rfl (wn_none rfl) hSS (yl_load (fun _ h => h) hF rfl rfl 0 rfl ag3 rfl) ?_
          clear hF; intro a hF
          refine ha_one 11 (by kernel_rfl) rfl (wn_none rfl) (wp_call (vs := [_, _, _, _, _]) hF rfl rfl rfl rfl cf15 (cost_any (b) (e) (m) (q.h) (c.f1) (c.f2) (c.f3) _) ?_)
          clear hF; rintro _ w ⟨rfl, hS1⟩ a hF
          replace hS := hS.callB hS1 rfl; clear hS1
          replace hSS := hS.sub [1, 2, 3] (by decide) rfl (by simp)
          refine ⟨.inr hSS, ?_⟩
          refine ha_y 12 hF rfl rfl rfl (wn_none rfl) (.inr hSS) (yl_bin hF rfl rfl rfl rfl (fun _ => run_add (by refine ⟨?_, ?_⟩ <;> omega))) ?_
          clear hF; intro a hF
          refine ha_y 16 hF rfl rfl rfl (wn_none rfl) (.inr hSS) (yl_bin hF rfl rfl rfl rfl (fun _ => run_add (by refine ⟨?_, ?_⟩ <;> omega))) ?_
          clear hF; intro a hF
          refine ha_y 17 hF rfl rfl rfl (wn_none rfl) (.inr hSS) (yl_fieldAddr hF rfl rfl (fun w => by kernel_rfl : ∀ w, (Instr.fieldAt 39 (.pointer (some ⟨g60, 0, none⟩)) 7).run Try.prog w = .ok (.pointer (some ⟨g60, 7, none⟩)) w)) ?_
          clear hF; intro a hF
          refine ha_one 18 (by kernel_rfl) rfl (wn_none rfl) (wp_store (cs' := #[_, _, _, _, _, _, _, _, _, _, _, _]) hF hS rfl rfl rfl rfl 1 rfl sz3 (by simp [Value.cells, Value.oneCell']) (by simp [Value.cells]) rfl ?_)
          clear hF hS; intro a w hF hS
          refine ⟨.inl (by kernel_rfl), ?_⟩
          refine ha_done (by kernel_rfl) ?_ _
          refine then_n ?_
          refine c_seq ?_
          refine c_region ?_
          refine seq_yl hF (wn_none rfl) rfl rfl (yl_fieldAddr hF rfl rfl (fun w => by kernel_rfl : ∀ w, (Instr.fieldAt 39 (.pointer (some ⟨g60, 0, none⟩)) 7).run Try.prog w = .ok (.pointer (some ⟨g60, 7, none⟩)) w)) ?_
          clear hF; intro a hF
          refine seq_yl hF (wn_none rfl) rfl rfl (yl_load (fun _ h => h ▸ hS) hF rfl rfl 1 rfl ag3 rfl) ?_
          clear hF; intro a hF
          refine seq_yl hF (wn_none rfl) rfl rfl (yl_fieldAddr hF rfl rfl (fun w => by kernel_rfl : ∀ w, (Instr.fieldAt 25 (.pointer (some ⟨g58, 0, none⟩)) 2).run Try.prog w = .ok (.pointer (some ⟨g58, 2, none⟩)) w)) ?_
          clear hF; intro a hF
          refine seq_wp (wn_none rfl) (wp_store (cs' := #[_, _, _, _]) hF hS rfl rfl rfl rfl 3 rfl sz3 (by simp [Value.cells, Value.oneCell']) (by simp [Value.cells]) rfl ?_)
          clear hF hS; intro a w hF hS
          refine wpList_nil ?_
          refine then_n ?_
          refine c_seq ?_
          refine c_region ?_
          refine seq_yl hF (wn_none rfl) rfl rfl (yl_fieldAddr hF rfl rfl (fun w => by kernel_rfl : ∀ w, (Instr.fieldAt 39 (.pointer (some ⟨g60, 0, none⟩)) 1).run Try.prog w = .ok (.pointer (some ⟨g60, 1, none⟩)) w)) ?_
          clear hF; intro a hF
          refine seq_yl hF (wn_none rfl) rfl rfl (yl_load (fun _ h => h ▸ hS) hF rfl rfl 1 rfl ag3 rfl) ?_
          clear hF; intro a hF
          refine seq_yl hF (wn_none rfl) rfl rfl (yl_bin hF rfl rfl rfl rfl (fun _ => run_neq)) ?_
          clear hF; intro a hF
          refine wpList_nil ?_
          refine then_n ?_
          refine c_cond hF rfl (fun hc69 => ?_) (fun hc69 => ?_)
          · first | (replace hc69 := of_decide_eq_true hc69) | (replace hc69 := of_decide_eq_false (bnot_t hc69)) | (subst hc69) | (replace hc69 := bnot_t hc69; subst hc69) | (replace hc69 := bnot_t hc69) | skip
            refine c_region ?_
            refine seq_yl hF (wn_none rfl) rfl rfl (yl_fieldAddr hF rfl rfl (fun w => by kernel_rfl : ∀ w, (Instr.fieldAt 39 (.pointer (some ⟨g60, 0, none⟩)) 2).run Try.prog w = .ok (.pointer (some ⟨g60, 2, none⟩)) w)) ?_
            clear hF; intro a hF
            refine seq_yl hF (wn_none rfl) rfl rfl (yl_load (fun _ h => h ▸ hS) hF rfl rfl 1 rfl ag3 rfl) ?_
            clear hF; intro a hF
            refine seq_yl hF (wn_none rfl) rfl rfl (yl_fieldAddr hF rfl rfl (fun w => by kernel_rfl : ∀ w, (Instr.fieldAt 39 (.pointer (some ⟨g60, 0, none⟩)) 3).run Try.prog w = .ok (.pointer (some ⟨g60, 3, none⟩)) w)) ?_
            clear hF; intro a hF
            refine seq_yl hF (wn_none rfl) rfl rfl (yl_load (fun _ h => h ▸ hS) hF rfl rfl 1 rfl ag3 rfl) ?_
            clear hF; intro a hF
            refine seq_yl hF (wn_none rfl) rfl rfl (yl_bin hF rfl rfl rfl rfl (fun _ => run_add (by refine ⟨?_, ?_⟩ <;> omega))) ?_
            clear hF; intro a hF
            refine seq_yl hF (wn_none rfl) rfl rfl (yl_min2 hF rfl rfl rfl) ?_
            clear hF; intro a hF
            refine seq_yl hF (wn_none rfl) rfl rfl (yl_fieldAddr hF rfl rfl (fun w => by kernel_rfl : ∀ w, (Instr.fieldAt 25 (.pointer (some ⟨g58, 0, none⟩)) 1).run Try.prog w = .ok (.pointer (some ⟨g58, 1, none⟩)) w)) ?_
            clear hF; intro a hF
            refine seq_wp (wn_none rfl) (wp_store (cs' := #[_, _, _, _]) hF hS rfl rfl rfl rfl 3 rfl sz3 (by simp [Value.cells, Value.oneCell']) (by simp [Value.cells]) rfl ?_)
            clear hF hS; intro a w hF hS
            refine wpList_nil ?_
            refine then_n ?_
            refine c_seq ?_
            refine ha_startS hS [3, 1] 7 (by kernel_rfl) ?_; clear hS; intro w hS
            have hSS := hS.sub [3, 1] (by decide) rfl (by simp)
            refine ha_y 0 hF rfl rfl rfl (wn_none rfl) (.inr hSS) (yl_fieldAddr hF rfl rfl (fun w => by kernel_rfl : ∀ w, (Instr.fieldAt 25 (.pointer (some ⟨g58, 0, none⟩)) 3).run Try.prog w = .ok (.pointer (some ⟨g58, 3, none⟩)) w)) ?_
            clear hF; intro a hF
            refine ha_l 1 hF rfl rfl rfl (wn_none rfl) hSS (yl_load (fun _ h => h) hF rfl rfl 0 rfl ag23 rfl) ?_
            clear hF; intro a hF
            refine ha_l 3 hF rfl rfl rfl (wn_none rfl) hSS (yl_loadK (rs := [_, _, _, _, _, _, _, _, _, _, _, _]) (fun _ h => h) hF rfl rfl 1 rfl ag39 sz39 rfl rfl) ?_
            clear hF; intro a hF
            refine ha_all (rs := [2, 4]) (by kernel_rfl) (by simp) ?_
            refine List.forall_mem_cons.2 ⟨?_, List.forall_mem_cons.2 ⟨?_, (fun _ h => by cases h)⟩⟩
            · skip
              refine ha_op 2 rfl (wn_none rfl) (wp_call (vs := [_]) hF rfl rfl rfl rfl cf32 (cloneC_any _ _ _ (hS.rdRo 4 rfl) (by first | omega | (simp; done) | (simp; omega))) ?_)
              clear hF; rintro _ w ⟨v70, rfl, hS1⟩ a hF
              replace hS := hS.callB hS1 rfl; clear hS1
              obtain ⟨Av70, cv70, rfl⟩ := hS.form 0 rfl
              replace hSS := hS.sub [4, 2] (by decide) rfl (by simp)
              refine ⟨.inr hSS, ?_⟩
              refine ha_one 4 (by kernel_rfl) rfl (wn_none rfl) (wp_bslice (parts := [(0, .tmp 76)]) (vs := [(0, _)]) (enc := enc39) (e := 39) (size := 12) (cs := #[.int .i64 (c.f0), .int .i64 (c.f1), .int .i64 (c.f2), .int .i64 (c.f3), .string c.f4, .bool c.f5, .int .i64 ((max (now) (q.f))), .int .i64 ((((((max (now) (q.f))) + ((costF (b) (e) (m) (q.h) (c.f1) (c.f2) (c.f3))))) + (c.f11))), .int .i64 (c.f8), .int .i64 (c.f9), .bool c.f10, .int .i64 (c.f11)]) hF hS rfl rfl rfl rfl ([(E39.mk (c.f0) (c.f1) (c.f2) (c.f3) c.f4 c.f5 ((max (now) (q.f))) ((((((max (now) (q.f))) + ((costF (b) (e) (m) (q.h) (c.f1) (c.f2) (c.f3))))) + (c.f11))) (c.f8) (c.f9) c.f10 (c.f11))] : List E39) (fun w => by kernel_rfl) rfl rfl rfl (by decide) ?_)
              clear hF hS; intro a w v71 hF hS
              obtain ⟨Av71, cv71, rfl⟩ := hS.form 0 rfl
              replace hSS := hS.sub [5, 3] (by decide) rfl (by simp)
              refine ⟨.inr hSS, ?_⟩
              refine ha_one 5 (by kernel_rfl) rfl (wn_none rfl) (wp_app (enc := enc39) hF hS rfl rfl rfl rfl rfl 1 rfl sl23 inf39 rfl (by decide) (hS.rdRow 0 rfl) enc39_one (by decide) (by first | omega | (simp only [List.length_append, List.length_cons, List.length_nil]; omega) | (simp; omega)) ?_)
              clear hF hS; intro a w v72 hF hS
              obtain ⟨Av72, cv72, rfl⟩ := hS.form 1 rfl
              replace hSS := hS.sub [5, 3] (by decide) rfl (by simp)
              refine ⟨.inr hSS, ?_⟩
              refine ha_y 6 hF rfl rfl rfl (wn_none rfl) (.inr hSS) (yl_fieldAddr hF rfl rfl (fun w => by kernel_rfl : ∀ w, (Instr.fieldAt 25 (.pointer (some ⟨g58, 0, none⟩)) 3).run Try.prog w = .ok (.pointer (some ⟨g58, 3, none⟩)) w)) ?_
              clear hF; intro a hF
              refine ha_one 7 (by kernel_rfl) rfl (wn_none rfl) (wp_store (cs' := #[_, _, _, _]) hF hS rfl rfl rfl rfl 5 rfl sz23 (by simp [Value.cells, Value.oneCell']) (by simp [Value.cells]) rfl ?_)
              clear hF hS; intro a w hF hS
              refine ⟨.inl (by kernel_rfl), ?_⟩
              refine ha_done (by kernel_rfl) ?_ _
              refine then_n ?_
              refine c_seq ?_
              refine c_region ?_
              refine seq_yl hF (wn_none rfl) rfl rfl (yl_loadK (rs := [_, _, _, _]) (fun _ h => h ▸ hS) hF rfl rfl 5 rfl ag25 sz25 rfl rfl) ?_
              clear hF; intro a hF
              refine seq_wp (wn_none rfl) (wp_store (cs' := #[_, _, _, _]) hF hS rfl rfl rfl rfl 2 rfl sz25 (by simp [Value.cells, Value.oneCell']) (by simp [Value.cells]) rfl ?_)
              clear hF hS; intro a w hF hS
              refine seq_yl hF (wn_none rfl) rfl rfl (yl_assign hF rfl rfl) ?_
              clear hF; intro a hF
              refine wpList_nil ?_
              refine then_n ?_
              refine wp_ret ?_
              refine ret_ct hF rfl (resC hS rfl 2 rfl ag25 sz25) rfl ?_
              exact ⟨_, rfl, _, _, _, _, _, _, rfl, by first | exact push_hang hok (by first | assumption | exact (cont_idx _ _).symm.trans (decide_eq_false (by assumption))) (by omega) (by omega) | exact push_fl hok (by first | assumption | exact (cont_idx _ _).symm.trans (decide_eq_false (by assumption))) (by omega) (by omega) (by omega) | exact push_rw hok (by first | assumption | exact (cont_idx _ _).symm.trans (decide_eq_false (by assumption))) (by omega) (by omega) (by omega), (hS.sub [1] (by decide) (by first | rfl | simp) (by simp))⟩
            · skip
              refine ha_op 4 rfl (wn_none rfl) (wp_bslice (parts := [(0, .tmp 76)]) (vs := [(0, _)]) (enc := enc39) (e := 39) (size := 12) (cs := #[.int .i64 (c.f0), .int .i64 (c.f1), .int .i64 (c.f2), .int .i64 (c.f3), .string c.f4, .bool c.f5, .int .i64 ((max (now) (q.f))), .int .i64 ((((((max (now) (q.f))) + ((costF (b) (e) (m) (q.h) (c.f1) (c.f2) (c.f3))))) + (c.f11))), .int .i64 (c.f8), .int .i64 (c.f9), .bool c.f10, .int .i64 (c.f11)]) hF hS rfl rfl rfl rfl ([(E39.mk (c.f0) (c.f1) (c.f2) (c.f3) c.f4 c.f5 ((max (now) (q.f))) ((((((max (now) (q.f))) + ((costF (b) (e) (m) (q.h) (c.f1) (c.f2) (c.f3))))) + (c.f11))) (c.f8) (c.f9) c.f10 (c.f11))] : List E39) (fun w => by kernel_rfl) rfl rfl rfl (by decide) ?_)
              clear hF hS; intro a w v73 hF hS
              obtain ⟨Av73, cv73, rfl⟩ := hS.form 0 rfl
              replace hSS := hS.sub [4, 2] (by decide) rfl (by simp)
              refine ⟨.inr hSS, ?_⟩
              refine ha_one 2 (by kernel_rfl) rfl (wn_none rfl) (wp_call (vs := [_]) hF rfl rfl rfl rfl cf32 (cloneC_any _ _ _ (hS.rdRo 5 rfl) (by first | omega | (simp; done) | (simp; omega))) ?_)
              clear hF; rintro _ w ⟨v74, rfl, hS1⟩ a hF
              replace hS := hS.callB hS1 rfl; clear hS1
              obtain ⟨Av74, cv74, rfl⟩ := hS.form 0 rfl
              replace hSS := hS.sub [5, 3] (by decide) rfl (by simp)
              refine ⟨.inr hSS, ?_⟩
              refine ha_one 5 (by kernel_rfl) rfl (wn_none rfl) (wp_app (enc := enc39) hF hS rfl rfl rfl rfl rfl 0 rfl sl23 inf39 rfl (by decide) (hS.rdRow 1 rfl) enc39_one (by decide) (by first | omega | (simp only [List.length_append, List.length_cons, List.length_nil]; omega) | (simp; omega)) ?_)
              clear hF hS; intro a w v75 hF hS
              obtain ⟨Av75, cv75, rfl⟩ := hS.form 0 rfl
              replace hSS := hS.sub [5, 3] (by decide) rfl (by simp)
              refine ⟨.inr hSS, ?_⟩
              refine ha_y 6 hF rfl rfl rfl (wn_none rfl) (.inr hSS) (yl_fieldAddr hF rfl rfl (fun w => by kernel_rfl : ∀ w, (Instr.fieldAt 25 (.pointer (some ⟨g58, 0, none⟩)) 3).run Try.prog w = .ok (.pointer (some ⟨g58, 3, none⟩)) w)) ?_
              clear hF; intro a hF
              refine ha_one 7 (by kernel_rfl) rfl (wn_none rfl) (wp_store (cs' := #[_, _, _, _]) hF hS rfl rfl rfl rfl 5 rfl sz23 (by simp [Value.cells, Value.oneCell']) (by simp [Value.cells]) rfl ?_)
              clear hF hS; intro a w hF hS
              refine ⟨.inl (by kernel_rfl), ?_⟩
              refine ha_done (by kernel_rfl) ?_ _
              refine then_n ?_
              refine c_seq ?_
              refine c_region ?_
              refine seq_yl hF (wn_none rfl) rfl rfl (yl_loadK (rs := [_, _, _, _]) (fun _ h => h ▸ hS) hF rfl rfl 5 rfl ag25 sz25 rfl rfl) ?_
              clear hF; intro a hF
              refine seq_wp (wn_none rfl) (wp_store (cs' := #[_, _, _, _]) hF hS rfl rfl rfl rfl 2 rfl sz25 (by simp [Value.cells, Value.oneCell']) (by simp [Value.cells]) rfl ?_)
              clear hF hS; intro a w hF hS
              refine seq_yl hF (wn_none rfl) rfl rfl (yl_assign hF rfl rfl) ?_
              clear hF; intro a hF
              refine wpList_nil ?_
              refine then_n ?_
              refine wp_ret ?_
              refine ret_ct hF rfl (resC hS rfl 2 rfl ag25 sz25) rfl ?_
              exact ⟨_, rfl, _, _, _, _, _, _, rfl, by first | exact push_hang hok (by first | assumption | exact (cont_idx _ _).symm.trans (decide_eq_false (by assumption))) (by omega) (by omega) | exact push_fl hok (by first | assumption | exact (cont_idx _ _).symm.trans (decide_eq_false (by assumption))) (by omega) (by omega) (by omega) | exact push_rw hok (by first | assumption | exact (cont_idx _ _).symm.trans (decide_eq_false (by assumption))) (by omega) (by omega) (by omega), (hS.sub [0] (by decide) (by first | rfl | simp) (by simp))⟩
          · first | (replace hc69 := of_decide_eq_false hc69) | (replace hc69 := of_decide_eq_true (bnot_f hc69)) | (subst hc69) | (replace hc69 := bnot_f hc69; subst hc69) | (replace hc69 := bnot_f hc69) | skip
            refine wp_skip ?_
            refine then_n ?_
            refine c_seq ?_
            refine ha_startS hS [3, 1] 7 (by kernel_rfl) ?_; clear hS; intro w hS
            have hSS := hS.sub [3, 1] (by decide) rfl (by simp)
            refine ha_y 0 hF rfl rfl rfl (wn_none rfl) (.inr hSS) (yl_fieldAddr hF rfl rfl (fun w => by kernel_rfl : ∀ w, (Instr.fieldAt 25 (.pointer (some ⟨g58, 0, none⟩)) 3).run Try.prog w = .ok (.pointer (some ⟨g58, 3, none⟩)) w)) ?_
            clear hF; intro a hF
            refine ha_l 1 hF rfl rfl rfl (wn_none rfl) hSS (yl_load (fun _ h => h) hF rfl rfl 0 rfl ag23 rfl) ?_
            clear hF; intro a hF
            refine ha_l 3 hF rfl rfl rfl (wn_none rfl) hSS (yl_loadK (rs := [_, _, _, _, _, _, _, _, _, _, _, _]) (fun _ h => h) hF rfl rfl 1 rfl ag39 sz39 rfl rfl) ?_
            clear hF; intro a hF
            refine ha_all (rs := [2, 4]) (by kernel_rfl) (by simp) ?_
            refine List.forall_mem_cons.2 ⟨?_, List.forall_mem_cons.2 ⟨?_, (fun _ h => by cases h)⟩⟩
            · skip
              refine ha_op 2 rfl (wn_none rfl) (wp_call (vs := [_]) hF rfl rfl rfl rfl cf32 (cloneC_any _ _ _ (hS.rdRo 4 rfl) (by first | omega | (simp; done) | (simp; omega))) ?_)
              clear hF; rintro _ w ⟨v76, rfl, hS1⟩ a hF
              replace hS := hS.callB hS1 rfl; clear hS1
              obtain ⟨Av76, cv76, rfl⟩ := hS.form 0 rfl
              replace hSS := hS.sub [4, 2] (by decide) rfl (by simp)
              refine ⟨.inr hSS, ?_⟩
              refine ha_one 4 (by kernel_rfl) rfl (wn_none rfl) (wp_bslice (parts := [(0, .tmp 76)]) (vs := [(0, _)]) (enc := enc39) (e := 39) (size := 12) (cs := #[.int .i64 (c.f0), .int .i64 (c.f1), .int .i64 (c.f2), .int .i64 (c.f3), .string c.f4, .bool c.f5, .int .i64 ((max (now) (q.f))), .int .i64 ((((((max (now) (q.f))) + ((costF (b) (e) (m) (q.h) (c.f1) (c.f2) (c.f3))))) + (c.f11))), .int .i64 (c.f8), .int .i64 (c.f9), .bool c.f10, .int .i64 (c.f11)]) hF hS rfl rfl rfl rfl ([(E39.mk (c.f0) (c.f1) (c.f2) (c.f3) c.f4 c.f5 ((max (now) (q.f))) ((((((max (now) (q.f))) + ((costF (b) (e) (m) (q.h) (c.f1) (c.f2) (c.f3))))) + (c.f11))) (c.f8) (c.f9) c.f10 (c.f11))] : List E39) (fun w => by kernel_rfl) rfl rfl rfl (by decide) ?_)
              clear hF hS; intro a w v77 hF hS
              obtain ⟨Av77, cv77, rfl⟩ := hS.form 0 rfl
              replace hSS := hS.sub [5, 3] (by decide) rfl (by simp)
              refine ⟨.inr hSS, ?_⟩
              refine ha_one 5 (by kernel_rfl) rfl (wn_none rfl) (wp_app (enc := enc39) hF hS rfl rfl rfl rfl rfl 1 rfl sl23 inf39 rfl (by decide) (hS.rdRow 0 rfl) enc39_one (by decide) (by first | omega | (simp only [List.length_append, List.length_cons, List.length_nil]; omega) | (simp; omega)) ?_)
              clear hF hS; intro a w v78 hF hS
              obtain ⟨Av78, cv78, rfl⟩ := hS.form 1 rfl
              replace hSS := hS.sub [5, 3] (by decide) rfl (by simp)
              refine ⟨.inr hSS, ?_⟩
              refine ha_y 6 hF rfl rfl rfl (wn_none rfl) (.inr hSS) (yl_fieldAddr hF rfl rfl (fun w => by kernel_rfl : ∀ w, (Instr.fieldAt 25 (.pointer (some ⟨g58, 0, none⟩)) 3).run Try.prog w = .ok (.pointer (some ⟨g58, 3, none⟩)) w)) ?_
              clear hF; intro a hF
              refine ha_one 7 (by kernel_rfl) rfl (wn_none rfl) (wp_store (cs' := #[_, _, _, _]) hF hS rfl rfl rfl rfl 5 rfl sz23 (by simp [Value.cells, Value.oneCell']) (by simp [Value.cells]) rfl ?_)
              clear hF hS; intro a w hF hS
              refine ⟨.inl (by kernel_rfl), ?_⟩
              refine ha_done (by kernel_rfl) ?_ _
              refine then_n ?_
              refine c_seq ?_
              refine c_region ?_
              refine seq_yl hF (wn_none rfl) rfl rfl (yl_loadK (rs := [_, _, _, _]) (fun _ h => h ▸ hS) hF rfl rfl 5 rfl ag25 sz25 rfl rfl) ?_
              clear hF; intro a hF
              refine seq_wp (wn_none rfl) (wp_store (cs' := #[_, _, _, _]) hF hS rfl rfl rfl rfl 2 rfl sz25 (by simp [Value.cells, Value.oneCell']) (by simp [Value.cells]) rfl ?_)
              clear hF hS; intro a w hF hS
              refine seq_yl hF (wn_none rfl) rfl rfl (yl_assign hF rfl rfl) ?_
              clear hF; intro a hF
              refine wpList_nil ?_
              refine then_n ?_
              refine wp_ret ?_
              refine ret_ct hF rfl (resC hS rfl 2 rfl ag25 sz25) rfl ?_
              exact ⟨_, rfl, _, _, _, _, _, _, rfl, by first | exact push_hang hok (by first | assumption | exact (cont_idx _ _).symm.trans (decide_eq_false (by assumption))) (by omega) (by omega) | exact push_fl hok (by first | assumption | exact (cont_idx _ _).symm.trans (decide_eq_false (by assumption))) (by omega) (by omega) (by omega) | exact push_rw hok (by first | assumption | exact (cont_idx _ _).symm.trans (decide_eq_false (by assumption))) (by omega) (by omega) (by omega), (hS.sub [1] (by decide) (by first | rfl | simp) (by simp))⟩
            · skip
              refine ha_op 4 rfl (wn_none rfl) (wp_bslice (parts := [(0, .tmp 76)]) (vs := [(0, _)]) (enc := enc39) (e := 39) (size := 12) (cs := #[.int .i64 (c.f0), .int .i64 (c.f1), .int .i64 (c.f2), .int .i64 (c.f3), .string c.f4, .bool c.f5, .int .i64 ((max (now) (q.f))), .int .i64 ((((((max (now) (q.f))) + ((costF (b) (e) (m) (q.h) (c.f1) (c.f2) (c.f3))))) + (c.f11))), .int .i64 (c.f8), .int .i64 (c.f9), .bool c.f10, .int .i64 (c.f11)]) hF hS rfl rfl rfl rfl ([(E39.mk (c.f0) (c.f1) (c.f2) (c.f3) c.f4 c.f5 ((max (now) (q.f))) ((((((max (now) (q.f))) + ((costF (b) (e) (m) (q.h) (c.f1) (c.f2) (c.f3))))) + (c.f11))) (c.f8) (c.f9) c.f10 (c.f11))] : List E39) (fun w => by kernel_rfl) rfl rfl rfl (by decide) ?_)
              clear hF hS; intro a w v79 hF hS
              obtain ⟨Av79, cv79, rfl⟩ := hS.form 0 rfl
              replace hSS := hS.sub [4, 2] (by decide) rfl (by simp)
              refine ⟨.inr hSS, ?_⟩
              refine ha_one 2 (by kernel_rfl) rfl (wn_none rfl) (wp_call (vs := [_]) hF rfl rfl rfl rfl cf32 (cloneC_any _ _ _ (hS.rdRo 5 rfl) (by first | omega | (simp; done) | (simp; omega))) ?_)
              clear hF; rintro _ w ⟨v80, rfl, hS1⟩ a hF
              replace hS := hS.callB hS1 rfl; clear hS1
              obtain ⟨Av80, cv80, rfl⟩ := hS.form 0 rfl
              replace hSS := hS.sub [5, 3] (by decide) rfl (by simp)
              refine ⟨.inr hSS, ?_⟩
              refine ha_one 5 (by kernel_rfl) rfl (wn_none rfl) (wp_app (enc := enc39) hF hS rfl rfl rfl rfl rfl 0 rfl sl23 inf39 rfl (by decide) (hS.rdRow 1 rfl) enc39_one (by decide) (by first | omega | (simp only [List.length_append, List.length_cons, List.length_nil]; omega) | (simp; omega)) ?_)
              clear hF hS; intro a w v81 hF hS
              obtain ⟨Av81, cv81, rfl⟩ := hS.form 0 rfl
              replace hSS := hS.sub [5, 3] (by decide) rfl (by simp)
              refine ⟨.inr hSS, ?_⟩
              refine ha_y 6 hF rfl rfl rfl (wn_none rfl) (.inr hSS) (yl_fieldAddr hF rfl rfl (fun w => by kernel_rfl : ∀ w, (Instr.fieldAt 25 (.pointer (some ⟨g58, 0, none⟩)) 3).run Try.prog w = .ok (.pointer (some ⟨g58, 3, none⟩)) w)) ?_
              clear hF; intro a hF
              refine ha_one 7 (by kernel_rfl) rfl (wn_none rfl) (wp_store (cs' := #[_, _, _, _]) hF hS rfl rfl rfl rfl 5 rfl sz23 (by simp [Value.cells, Value.oneCell']) (by simp [Value.cells]) rfl ?_)
              clear hF hS; intro a w hF hS
              refine ⟨.inl (by kernel_rfl), ?_⟩
              refine ha_done (by kernel_rfl) ?_ _
              refine then_n ?_
              refine c_seq ?_
              refine c_region ?_
              refine seq_yl hF (wn_none rfl) rfl rfl (yl_loadK (rs := [_, _, _, _]) (fun _ h => h ▸ hS) hF rfl rfl 5 rfl ag25 sz25 rfl rfl) ?_
              clear hF; intro a hF
              refine seq_wp (wn_none rfl) (wp_store (cs' := #[_, _, _, _]) hF hS rfl rfl rfl rfl 2 rfl sz25 (by simp [Value.cells, Value.oneCell']) (by simp [Value.cells]) rfl ?_)
              clear hF hS; intro a w hF hS
              refine seq_yl hF (wn_none rfl) rfl rfl (yl_assign hF rfl rfl) ?_
              clear hF; intro a hF
              refine wpList_nil ?_
              refine then_n ?_
              refine wp_ret ?_
              refine ret_ct hF rfl (resC hS rfl 2 rfl ag25 sz25) rfl ?_
              exact ⟨_, rfl, _, _, _, _, _, _, rfl, by first | exact push_hang hok (by first | assumption | exact (cont_idx _ _).symm.trans (decide_eq_false (by assumption))) (by omega) (by omega) | exact push_fl hok (by first | assumption | exact (cont_idx _ _).symm.trans (decide_eq_false (by assumption))) (by omega) (by omega) (by omega) | exact push_rw hok (by first | assumption | exact (cont_idx _ _).symm.trans (decide_eq_false (by assumption))) (by omega) (by omega) (by omega), (hS.sub [0] (by decide) (by first | rfl | simp) (by simp))⟩
        · first | (replace hc68 := of_decide_eq_false hc68) | (replace hc68 := of_decide_eq_true (bnot_f hc68)) | (subst hc68) | (replace hc68 := bnot_f hc68; subst hc68) | (replace hc68 := bnot_f hc68) | skip
          refine wp_skip ?_
          refine then_n ?_
          refine c_seq ?_
          refine ha_startS hS [3, 1] 7 (by kernel_rfl) ?_; clear hS; intro w hS
          have hSS := hS.sub [3, 1] (by decide) rfl (by simp)
          refine ha_y 0 hF rfl rfl rfl (wn_none rfl) (.inr hSS) (yl_fieldAddr hF rfl rfl (fun w => by kernel_rfl : ∀ w, (Instr.fieldAt 25 (.pointer (some ⟨g58, 0, none⟩)) 3).run Try.prog w = .ok (.pointer (some ⟨g58, 3, none⟩)) w)) ?_
          clear hF; intro a hF
          refine ha_l 1 hF rfl rfl rfl (wn_none rfl) hSS (yl_load (fun _ h => h) hF rfl rfl 0 rfl ag23 rfl) ?_
          clear hF; intro a hF
          refine ha_l 3 hF rfl rfl rfl (wn_none rfl) hSS (yl_loadK (rs := [_, _, _, _, _, _, _, _, _, _, _, _]) (fun _ h => h) hF rfl rfl 1 rfl ag39 sz39 rfl rfl) ?_
          clear hF; intro a hF
          refine ha_all (rs := [2, 4]) (by kernel_rfl) (by simp) ?_
          refine List.forall_mem_cons.2 ⟨?_, List.forall_mem_cons.2 ⟨?_, (fun _ h => by cases h)⟩⟩
          · skip
            refine ha_op 2 rfl (wn_none rfl) (wp_call (vs := [_]) hF rfl rfl rfl rfl cf32 (cloneC_any _ _ _ (hS.rdRo 4 rfl) (by first | omega | (simp; done) | (simp; omega))) ?_)
            clear hF; rintro _ w ⟨v82, rfl, hS1⟩ a hF
            replace hS := hS.callB hS1 rfl; clear hS1
            obtain ⟨Av82, cv82, rfl⟩ := hS.form 0 rfl
            replace hSS := hS.sub [4, 2] (by decide) rfl (by simp)
            refine ⟨.inr hSS, ?_⟩
            refine ha_one 4 (by kernel_rfl) rfl (wn_none rfl) (wp_bslice (parts := [(0, .tmp 76)]) (vs := [(0, _)]) (enc := enc39) (e := 39) (size := 12) (cs := #[.int .i64 (c.f0), .int .i64 (c.f1), .int .i64 (c.f2), .int .i64 (c.f3), .string c.f4, .bool c.f5, .int .i64 ((max (now) (q.f))), .int .i64 (-1 : Int), .int .i64 (c.f8), .int .i64 (c.f9), .bool c.f10, .int .i64 (c.f11)]) hF hS rfl rfl rfl rfl ([(E39.mk (c.f0) (c.f1) (c.f2) (c.f3) c.f4 c.f5 ((max (now) (q.f))) (-1 : Int) (c.f8) (c.f9) c.f10 (c.f11))] : List E39) (fun w => by kernel_rfl) rfl rfl rfl (by decide) ?_)
            clear hF hS; intro a w v83 hF hS
            obtain ⟨Av83, cv83, rfl⟩ := hS.form 0 rfl
            replace hSS := hS.sub [5, 3] (by decide) rfl (by simp)
            refine ⟨.inr hSS, ?_⟩
            refine ha_one 5 (by kernel_rfl) rfl (wn_none rfl) (wp_app (enc := enc39) hF hS rfl rfl rfl rfl rfl 1 rfl sl23 inf39 rfl (by decide) (hS.rdRow 0 rfl) enc39_one (by decide) (by first | omega | (simp only [List.length_append, List.length_cons, List.length_nil]; omega) | (simp; omega)) ?_)
            clear hF hS; intro a w v84 hF hS
            obtain ⟨Av84, cv84, rfl⟩ := hS.form 1 rfl
            replace hSS := hS.sub [5, 3] (by decide) rfl (by simp)
            refine ⟨.inr hSS, ?_⟩
            refine ha_y 6 hF rfl rfl rfl (wn_none rfl) (.inr hSS) (yl_fieldAddr hF rfl rfl (fun w => by kernel_rfl : ∀ w, (Instr.fieldAt 25 (.pointer (some ⟨g58, 0, none⟩)) 3).run Try.prog w = .ok (.pointer (some ⟨g58, 3, none⟩)) w)) ?_
            clear hF; intro a hF
            refine ha_one 7 (by kernel_rfl) rfl (wn_none rfl) (wp_store (cs' := #[_, _, _, _]) hF hS rfl rfl rfl rfl 5 rfl sz23 (by simp [Value.cells, Value.oneCell']) (by simp [Value.cells]) rfl ?_)
            clear hF hS; intro a w hF hS
            refine ⟨.inl (by kernel_rfl), ?_⟩
            refine ha_done (by kernel_rfl) ?_ _
            refine then_n ?_
            refine c_seq ?_
            refine c_region ?_
            refine seq_yl hF (wn_none rfl) rfl rfl (yl_loadK (rs := [_, _, _, _]) (fun _ h => h ▸ hS) hF rfl rfl 5 rfl ag25 sz25 rfl rfl) ?_
            clear hF; intro a hF
            refine seq_wp (wn_none rfl) (wp_store (cs' := #[_, _, _, _]) hF hS rfl rfl rfl rfl 2 rfl sz25 (by simp [Value.cells, Value.oneCell']) (by simp [Value.cells]) rfl ?_)
            clear hF hS; intro a w hF hS
            refine seq_yl hF (wn_none rfl) rfl rfl (yl_assign hF rfl rfl) ?_
            clear hF; intro a hF
            refine wpList_nil ?_
            refine then_n ?_
            refine wp_ret ?_
            refine ret_ct hF rfl (resC hS rfl 2 rfl ag25 sz25) rfl ?_
            exact ⟨_, rfl, _, _, _, _, _, _, rfl, by first | exact push_hang hok (by first | assumption | exact (cont_idx _ _).symm.trans (decide_eq_false (by assumption))) (by omega) (by omega) | exact push_fl hok (by first | assumption | exact (cont_idx _ _).symm.trans (decide_eq_false (by assumption))) (by omega) (by omega) (by omega) | exact push_rw hok (by first | assumption | exact (cont_idx _ _).symm.trans (decide_eq_false (by assumption))) (by omega) (by omega) (by omega), (hS.sub [1] (by decide) (by first | rfl | simp) (by simp))⟩
          · skip
            refine ha_op 4 rfl (wn_none rfl) (wp_bslice (parts := [(0, .tmp 76)]) (vs := [(0, _)]) (enc := enc39) (e := 39) (size := 12) (cs := #[.int .i64 (c.f0), .int .i64 (c.f1), .int .i64 (c.f2), .int .i64 (c.f3), .string c.f4, .bool c.f5, .int .i64 ((max (now) (q.f))), .int .i64 (-1 : Int), .int .i64 (c.f8), .int .i64 (c.f9), .bool c.f10, .int .i64 (c.f11)]) hF hS rfl rfl rfl rfl ([(E39.mk (c.f0) (c.f1) (c.f2) (c.f3) c.f4 c.f5 ((max (now) (q.f))) (-1 : Int) (c.f8) (c.f9) c.f10 (c.f11))] : List E39) (fun w => by kernel_rfl) rfl rfl rfl (by decide) ?_)
            clear hF hS; intro a w v85 hF hS
            obtain ⟨Av85, cv85, rfl⟩ := hS.form 0 rfl
            replace hSS := hS.sub [4, 2] (by decide) rfl (by simp)
            refine ⟨.inr hSS, ?_⟩
            refine ha_one 2 (by kernel_rfl) rfl (wn_none rfl) (wp_call (vs := [_]) hF rfl rfl rfl rfl cf32 (cloneC_any _ _ _ (hS.rdRo 5 rfl) (by first | omega | (simp; done) | (simp; omega))) ?_)
            clear hF; rintro _ w ⟨v86, rfl, hS1⟩ a hF
            replace hS := hS.callB hS1 rfl; clear hS1
            obtain ⟨Av86, cv86, rfl⟩ := hS.form 0 rfl
            replace hSS := hS.sub [5, 3] (by decide) rfl (by simp)
            refine ⟨.inr hSS, ?_⟩
            refine ha_one 5 (by kernel_rfl) rfl (wn_none rfl) (wp_app (enc := enc39) hF hS rfl rfl rfl rfl rfl 0 rfl sl23 inf39 rfl (by decide) (hS.rdRow 1 rfl) enc39_one (by decide) (by first | omega | (simp only [List.length_append, List.length_cons, List.length_nil]; omega) | (simp; omega)) ?_)
            clear hF hS; intro a w v87 hF hS
            obtain ⟨Av87, cv87, rfl⟩ := hS.form 0 rfl
            replace hSS := hS.sub [5, 3] (by decide) rfl (by simp)
            refine ⟨.inr hSS, ?_⟩
            refine ha_y 6 hF rfl rfl rfl (wn_none rfl) (.inr hSS) (yl_fieldAddr hF rfl rfl (fun w => by kernel_rfl : ∀ w, (Instr.fieldAt 25 (.pointer (some ⟨g58, 0, none⟩)) 3).run Try.prog w = .ok (.pointer (some ⟨g58, 3, none⟩)) w)) ?_
            clear hF; intro a hF
            refine ha_one 7 (by kernel_rfl) rfl (wn_none rfl) (wp_store (cs' := #[_, _, _, _]) hF hS rfl rfl rfl rfl 5 rfl sz23 (by simp [Value.cells, Value.oneCell']) (by simp [Value.cells]) rfl ?_)
            clear hF hS; intro a w hF hS
            refine ⟨.inl (by kernel_rfl), ?_⟩
            refine ha_done (by kernel_rfl) ?_ _
            refine then_n ?_
            refine c_seq ?_
            refine c_region ?_
            refine seq_yl hF (wn_none rfl) rfl rfl (yl_loadK (rs := [_, _, _, _]) (fun _ h => h ▸ hS) hF rfl rfl 5 rfl ag25 sz25 rfl rfl) ?_
            clear hF; intro a hF
            refine seq_wp (wn_none rfl) (wp_store (cs' := #[_, _, _, _]) hF hS rfl rfl rfl rfl 2 rfl sz25 (by simp [Value.cells, Value.oneCell']) (by simp [Value.cells]) rfl ?_)
            clear hF hS; intro a w hF hS
            refine seq_yl hF (wn_none rfl) rfl rfl (yl_assign hF rfl rfl) ?_
            clear hF; intro a hF
            refine wpList_nil ?_
            refine then_n ?_
            refine wp_ret ?_
            refine ret_ct hF rfl (resC hS rfl 2 rfl ag25 sz25) rfl ?_
            exact ⟨_, rfl, _, _, _, _, _, _, rfl, by first | exact push_hang hok (by first | assumption | exact (cont_idx _ _).symm.trans (decide_eq_false (by assumption))) (by omega) (by omega) | exact push_fl hok (by first | assumption | exact (cont_idx _ _).symm.trans (decide_eq_false (by assumption))) (by omega) (by omega) (by omega) | exact push_rw hok (by first | assumption | exact (cont_idx _ _).symm.trans (decide_eq_false (by assumption))) (by omega) (by omega) (by omega), (hS.sub [0] (by decide) (by first | rfl | simp) (by simp))⟩

theorem push2_any (q : Qu) (b e m now : Int) (c : E39) (v : Value) (w0 : World) (hv : Rd w0 12 v (q.L).length (cells enc39 (q.L))) (hL : q.L.length ≤ 1000000) :
    Fn Try.prog 22 #[.agg #[.int .i64 q.d, .int .i64 q.h, .int .i64 q.f, v], .agg #[.int .i64 b, .int .i64 e, .int .i64 m], .int .i64 now, .agg #[.int .i64 c.f0, .int .i64 c.f1, .int .i64 c.f2, .int .i64 c.f3, .string c.f4, .bool c.f5, .int .i64 c.f6, .int .i64 c.f7, .int .i64 c.f8, .int .i64 c.f9, .bool c.f10, .int .i64 c.f11]] w0 (fun v w' => ∃ (d h f er : Int) (v1 : Value) (L1 : List E39), v = .tuple #[.agg #[.int .i64 d, .int .i64 h, .int .i64 f, v1], .int .i64 er] ∧ pushF q b e m now c = (⟨d, h, f, L1⟩, er) ∧ Sat w0 w' [.row 39 12 v1 (L1).length (cells enc39 (L1))]) := by
  obtain ⟨Av, cv, rfl⟩ := Rd.form hv
  refine c_enter (N := 132) (l := [_, _, _, _]) Try.func22 rfl rfl (fun a w hF hS => ?_)
  replace hS := hS.addRo hv
  refine c_seq ?_
  refine c_region ?_
  refine seq_wp (wn_none rfl) (wp_box (cs := #[_, _, _, _]) hF hS rfl rfl rfl rfl rfl ?_)
  clear hF hS; intro a w g88 hF hS
  refine seq_wp (wn_none rfl) (wp_box (cs := #[_, _, _]) hF hS rfl rfl rfl rfl rfl ?_)
  clear hF hS; intro a w g89 hF hS
  refine seq_wp (wn_none rfl) (wp_box (cs := #[_, _, _, _, _, _, _, _, _, _, _, _]) hF hS rfl rfl rfl rfl rfl ?_)
  clear hF hS; intro a w g90 hF hS
  refine seq_wp (wn_none rfl) (wp_alloc (cs := #[_, _, _, _]) hF hS rfl rfl rfl zr25 rfl ?_)
  clear hF hS; intro a w g91 hF hS
  refine seq_yl hF (wn_none rfl) rfl rfl (yl_assign hF rfl rfl) ?_
  clear hF; intro a hF
  refine wpList_nil ?_
  refine then_n ?_
  refine c_seq ?_
  refine wp_block ?_
  refine c_seq ?_
  refine c_region ?_
  refine seq_yl hF (wn_none rfl) rfl rfl (yl_loadK (rs := [_, _, _]) (fun _ h => h ▸ hS) hF rfl rfl 2 rfl ag27 sz27 rfl rfl) ?_
  clear hF; intro a hF
  refine seq_wp (wn_none rfl) (wp_call (vs := [_]) hF rfl rfl rfl rfl cf38 (pace2_any (b) (e) (m) _) ?_)
  clear hF; rintro _ w ⟨rfl, hS1⟩ a hF
  replace hS := hS.callB hS1 rfl; clear hS1
  refine seq_yl hF (wn_none rfl) rfl rfl (yl_un hF rfl rfl (fun _ => run_not)) ?_
  clear hF; intro a hF
  refine seq_yl hF (wn_none rfl) rfl rfl (yl_move hF rfl rfl) ?_
  clear hF; intro a hF
  refine fr_split hF (fun hc92 hF => ?_) (fun hc92 hF => ?_)
  · first | (replace hc92 := of_decide_eq_true hc92) | (replace hc92 := of_decide_eq_false (bnot_t hc92)) | (subst hc92) | (replace hc92 := bnot_t hc92; subst hc92) | (replace hc92 := bnot_t hc92) | skip
    refine seq_skip hF (wn_f hF rfl rfl rfl rfl) rfl rfl ?_
    clear hF; intro a hF
    refine seq_skip hF (wn_f hF rfl rfl rfl rfl) rfl rfl ?_
    clear hF; intro a hF
    refine seq_skip hF (wn_f hF rfl rfl rfl rfl) rfl rfl ?_
    clear hF; intro a hF
    refine seq_yl hF (wn_none rfl) rfl rfl (yl_pick (u := _) (v := undef) hF rfl rfl (fun _ => rfl) (fun h => by cases h)) ?_
    clear hF; intro a hF
    refine seq_yl hF (wn_none rfl) rfl rfl (yl_move hF rfl rfl) ?_
    clear hF; intro a hF
    refine seq_skip hF (wn_f hF rfl rfl rfl rfl) rfl rfl ?_
    clear hF; intro a hF
    refine seq_skip hF (wn_f hF rfl rfl rfl rfl) rfl rfl ?_
    clear hF; intro a hF
    refine seq_skip hF (wn_f hF rfl rfl rfl rfl) rfl rfl ?_
    clear hF; intro a hF
    refine seq_skip hF (wn_f hF rfl rfl rfl rfl) rfl rfl ?_
    clear hF; intro a hF
    refine seq_yl hF (wn_none rfl) rfl rfl (yl_pick (u := _) (v := undef) hF rfl rfl (fun _ => rfl) (fun h => by cases h)) ?_
    clear hF; intro a hF
    refine seq_yl hF (wn_none rfl) rfl rfl (yl_move hF rfl rfl) ?_
    clear hF; intro a hF
    refine seq_skip hF (wn_f hF rfl rfl rfl rfl) rfl rfl ?_
    clear hF; intro a hF
    refine seq_skip hF (wn_f hF rfl rfl rfl rfl) rfl rfl ?_
    clear hF; intro a hF
    refine seq_skip hF (wn_f hF rfl rfl rfl rfl) rfl rfl ?_
    clear hF; intro a hF
    refine seq_skip hF (wn_f hF rfl rfl rfl rfl) rfl rfl ?_
    clear hF; intro a hF
    refine seq_yl hF (wn_none rfl) rfl rfl (yl_pick (u := _) (v := undef) hF rfl rfl (fun _ => rfl) (fun h => by cases h)) ?_
    clear hF; intro a hF
    refine seq_yl hF (wn_none rfl) rfl rfl (yl_move hF rfl rfl) ?_
    clear hF; intro a hF
    refine seq_skip hF (wn_f hF rfl rfl rfl rfl) rfl rfl ?_
    clear hF; intro a hF
    refine seq_skip hF (wn_f hF rfl rfl rfl rfl) rfl rfl ?_
    clear hF; intro a hF
    refine seq_skip hF (wn_f hF rfl rfl rfl rfl) rfl rfl ?_
    clear hF; intro a hF
    refine seq_skip hF (wn_f hF rfl rfl rfl rfl) rfl rfl ?_
    clear hF; intro a hF
    refine seq_yl hF (wn_none rfl) rfl rfl (yl_pick (u := _) (v := undef) hF rfl rfl (fun _ => rfl) (fun h => by cases h)) ?_
    clear hF; intro a hF
    refine seq_yl hF (wn_none rfl) rfl rfl (yl_move hF rfl rfl) ?_
    clear hF; intro a hF
    refine seq_skip hF (wn_f hF rfl rfl rfl rfl) rfl rfl ?_
    clear hF; intro a hF
    refine seq_skip hF (wn_f hF rfl rfl rfl rfl) rfl rfl ?_
    clear hF; intro a hF
    refine seq_skip hF (wn_f hF rfl rfl rfl rfl) rfl rfl ?_
    clear hF; intro a hF
    refine seq_skip hF (wn_f hF rfl rfl rfl rfl) rfl rfl ?_
    clear hF; intro a hF
    refine seq_yl hF (wn_none rfl) rfl rfl (yl_pick (u := _) (v := undef) hF rfl rfl (fun _ => rfl) (fun h => by cases h)) ?_
    clear hF; intro a hF
    refine seq_yl hF (wn_none rfl) rfl rfl (yl_move hF rfl rfl) ?_
    clear hF; intro a hF
    refine seq_skip hF (wn_f hF rfl rfl rfl rfl) rfl rfl ?_
    clear hF; intro a hF
    refine seq_skip hF (wn_f hF rfl rfl rfl rfl) rfl rfl ?_
    clear hF; intro a hF
    refine seq_skip hF (wn_f hF rfl rfl rfl rfl) rfl rfl ?_
    clear hF; intro a hF
    refine seq_yl hF (wn_none rfl) rfl rfl (yl_pick (u := _) (v := undef) hF rfl rfl (fun _ => rfl) (fun h => by cases h)) ?_
    clear hF; intro a hF
    refine seq_yl hF (wn_none rfl) rfl rfl (yl_move hF rfl rfl) ?_
    clear hF; intro a hF
    refine seq_skip hF (wn_f hF rfl rfl rfl rfl) rfl rfl ?_
    clear hF; intro a hF
    refine seq_skip hF (wn_f hF rfl rfl rfl rfl) rfl rfl ?_
    clear hF; intro a hF
    refine seq_skip hF (wn_f hF rfl rfl rfl rfl) rfl rfl ?_
    clear hF; intro a hF
    refine seq_yl hF (wn_none rfl) rfl rfl (yl_pick (u := _) (v := undef) hF rfl rfl (fun _ => rfl) (fun h => by cases h)) ?_
    clear hF; intro a hF
    refine seq_yl hF (wn_none rfl) rfl rfl (yl_move hF rfl rfl) ?_
    clear hF; intro a hF
    refine seq_skip hF (wn_f hF rfl rfl rfl rfl) rfl rfl ?_
    clear hF; intro a hF
    refine seq_skip hF (wn_f hF rfl rfl rfl rfl) rfl rfl ?_
    clear hF; intro a hF
    refine seq_skip hF (wn_f hF rfl rfl rfl rfl) rfl rfl ?_
    clear hF; intro a hF
    refine seq_skip hF (wn_f hF rfl rfl rfl rfl) rfl rfl ?_
    clear hF; intro a hF
    refine seq_skip hF (wn_f hF rfl rfl rfl rfl) rfl rfl ?_
    clear hF; intro a hF
    refine seq_yl hF (wn_none rfl) rfl rfl (yl_pick (u := _) (v := undef) hF rfl rfl (fun _ => rfl) (fun h => by cases h)) ?_
    clear hF; intro a hF
    refine seq_yl hF (wn_none rfl) rfl rfl (yl_assign hF rfl rfl) ?_
    clear hF; intro a hF
    refine wpList_nil ?_
    refine then_n ?_
    refine c_cond_t hF rfl ?_
    refine c_seq ?_
    refine c_region ?_
    refine seq_yl hF (wn_none rfl) rfl rfl (yl_build (parts := []) (vs := []) (cs := [_, _, _, _]) hF bd25 rfl rfl rfl rfl) ?_
    clear hF; intro a hF
    refine seq_wp (wn_none rfl) (wp_store (cs' := #[_, _, _, _]) hF hS rfl rfl rfl rfl 0 rfl sz25 (by simp [Value.cells, Value.oneCell']) (by simp [Value.cells]) rfl ?_)
    clear hF hS; intro a w hF hS
    refine seq_yl hF (wn_none rfl) rfl rfl (yl_assign hF rfl rfl) ?_
    clear hF; intro a hF
    refine wpList_nil ?_
    refine then_n ?_
    refine wp_ret ?_
    refine inb_r ?_
    refine then_r ?_
    refine ret_ct hF rfl (resC hS rfl 0 rfl ag25 sz25) rfl ?_
    replace hS := hS.addNil 39 12
    exact ⟨_, rfl, _, _, _, _, _, _, rfl, push_1 (by first | assumption | (unfold okP; omega)), (hS.sub [0] (by decide) (by first | rfl | simp) (by simp))⟩
  · first | (replace hc92 := of_decide_eq_false hc92) | (replace hc92 := of_decide_eq_true (bnot_f hc92)) | (subst hc92) | (replace hc92 := bnot_f hc92; subst hc92) | (replace hc92 := bnot_f hc92) | skip
    refine seq_yl hF (wn_t hF rfl rfl rfl rfl) rfl rfl (yl_move hF rfl rfl) ?_
    clear hF; intro a hF
    refine seq_wp (wn_t hF rfl rfl rfl rfl) (wp_call (vs := [_]) hF rfl rfl rfl rfl cf39 (tick_any (now) _) ?_)
    clear hF; rintro _ w ⟨rfl, hS1⟩ a hF
    replace hS := hS.callB hS1 rfl; clear hS1
    refine seq_yl hF (wn_t hF rfl rfl rfl rfl) rfl rfl (yl_un hF rfl rfl (fun _ => run_not)) ?_
    clear hF; intro a hF
    refine seq_yl hF (wn_none rfl) rfl rfl (yl_pick (u := _) (v := undef) hF rfl rfl (fun h => by cases h) (fun _ => rfl)) ?_
    clear hF; intro a hF
    refine seq_yl hF (wn_none rfl) rfl rfl (yl_move hF rfl rfl) ?_
    clear hF; intro a hF
    refine fr_split hF (fun hc94 hF => ?_) (fun hc94 hF => ?_)
    · first | (replace hc94 := of_decide_eq_true hc94) | (replace hc94 := of_decide_eq_false (bnot_t hc94)) | (subst hc94) | (replace hc94 := bnot_t hc94; subst hc94) | (replace hc94 := bnot_t hc94) | skip
      refine seq_skip hF (wn_f hF rfl rfl rfl rfl) rfl rfl ?_
      clear hF; intro a hF
      refine seq_skip hF (wn_f hF rfl rfl rfl rfl) rfl rfl ?_
      clear hF; intro a hF
      refine seq_skip hF (wn_f hF rfl rfl rfl rfl) rfl rfl ?_
      clear hF; intro a hF
      refine seq_skip hF (wn_f hF rfl rfl rfl rfl) rfl rfl ?_
      clear hF; intro a hF
      refine seq_yl hF (wn_none rfl) rfl rfl (yl_pick (u := _) (v := undef) hF rfl rfl (fun _ => rfl) (fun h => by cases h)) ?_
      clear hF; intro a hF
      refine seq_yl hF (wn_none rfl) rfl rfl (yl_move hF rfl rfl) ?_
      clear hF; intro a hF
      refine seq_skip hF (wn_f hF rfl rfl rfl rfl) rfl rfl ?_
      clear hF; intro a hF
      refine seq_skip hF (wn_f hF rfl rfl rfl rfl) rfl rfl ?_
      clear hF; intro a hF
      refine seq_skip hF (wn_f hF rfl rfl rfl rfl) rfl rfl ?_
      clear hF; intro a hF
      refine seq_skip hF (wn_f hF rfl rfl rfl rfl) rfl rfl ?_
      clear hF; intro a hF
      refine seq_yl hF (wn_none rfl) rfl rfl (yl_pick (u := _) (v := undef) hF rfl rfl (fun _ => rfl) (fun h => by cases h)) ?_
      clear hF; intro a hF
      refine seq_yl hF (wn_none rfl) rfl rfl (yl_move hF rfl rfl) ?_
      clear hF; intro a hF
      refine seq_skip hF (wn_f hF rfl rfl rfl rfl) rfl rfl ?_
      clear hF; intro a hF
      refine seq_skip hF (wn_f hF rfl rfl rfl rfl) rfl rfl ?_
      clear hF; intro a hF
      refine seq_skip hF (wn_f hF rfl rfl rfl rfl) rfl rfl ?_
      clear hF; intro a hF
      refine seq_skip hF (wn_f hF rfl rfl rfl rfl) rfl rfl ?_
      clear hF; intro a hF
      refine seq_yl hF (wn_none rfl) rfl rfl (yl_pick (u := _) (v := undef) hF rfl rfl (fun _ => rfl) (fun h => by cases h)) ?_
      clear hF; intro a hF
      refine seq_yl hF (wn_none rfl) rfl rfl (yl_move hF rfl rfl) ?_
      clear hF; intro a hF
      refine seq_skip hF (wn_f hF rfl rfl rfl rfl) rfl rfl ?_
      clear hF; intro a hF
      refine seq_skip hF (wn_f hF rfl rfl rfl rfl) rfl rfl ?_
      clear hF; intro a hF
      refine seq_skip hF (wn_f hF rfl rfl rfl rfl) rfl rfl ?_
      clear hF; intro a hF
      refine seq_skip hF (wn_f hF rfl rfl rfl rfl) rfl rfl ?_
      clear hF; intro a hF
      refine seq_yl hF (wn_none rfl) rfl rfl (yl_pick (u := _) (v := undef) hF rfl rfl (fun _ => rfl) (fun h => by cases h)) ?_
      clear hF; intro a hF
      refine seq_yl hF (wn_none rfl) rfl rfl (yl_move hF rfl rfl) ?_
      clear hF; intro a hF
      refine seq_skip hF (wn_f hF rfl rfl rfl rfl) rfl rfl ?_
      clear hF; intro a hF
      refine seq_skip hF (wn_f hF rfl rfl rfl rfl) rfl rfl ?_
      clear hF; intro a hF
      refine seq_skip hF (wn_f hF rfl rfl rfl rfl) rfl rfl ?_
      clear hF; intro a hF
      refine seq_yl hF (wn_none rfl) rfl rfl (yl_pick (u := _) (v := undef) hF rfl rfl (fun _ => rfl) (fun h => by cases h)) ?_
      clear hF; intro a hF
      refine seq_yl hF (wn_none rfl) rfl rfl (yl_move hF rfl rfl) ?_
      clear hF; intro a hF
      refine seq_skip hF (wn_f hF rfl rfl rfl rfl) rfl rfl ?_
      clear hF; intro a hF
      refine seq_skip hF (wn_f hF rfl rfl rfl rfl) rfl rfl ?_
      clear hF; intro a hF
      refine seq_skip hF (wn_f hF rfl rfl rfl rfl) rfl rfl ?_
      clear hF; intro a hF
      refine seq_yl hF (wn_none rfl) rfl rfl (yl_pick (u := _) (v := undef) hF rfl rfl (fun _ => rfl) (fun h => by cases h)) ?_
      clear hF; intro a hF
      refine seq_yl hF (wn_none rfl) rfl rfl (yl_move hF rfl rfl) ?_
      clear hF; intro a hF
      refine seq_skip hF (wn_f hF rfl rfl rfl rfl) rfl rfl ?_
      clear hF; intro a hF
      refine seq_skip hF (wn_f hF rfl rfl rfl rfl) rfl rfl ?_
      clear hF; intro a hF
      refine seq_skip hF (wn_f hF rfl rfl rfl rfl) rfl rfl ?_
      clear hF; intro a hF
      refine seq_skip hF (wn_f hF rfl rfl rfl rfl) rfl rfl ?_
      clear hF; intro a hF
      refine seq_skip hF (wn_f hF rfl rfl rfl rfl) rfl rfl ?_
      clear hF; intro a hF
      refine seq_yl hF (wn_none rfl) rfl rfl (yl_pick (u := _) (v := undef) hF rfl rfl (fun _ => rfl) (fun h => by cases h)) ?_
      clear hF; intro a hF
      refine seq_yl hF (wn_none rfl) rfl rfl (yl_assign hF rfl rfl) ?_
      clear hF; intro a hF
      refine wpList_nil ?_
      refine then_n ?_
      refine c_cond_t hF rfl ?_
      refine c_seq ?_
      refine c_region ?_
      refine seq_yl hF (wn_none rfl) rfl rfl (yl_build (parts := []) (vs := []) (cs := [_, _, _, _]) hF bd25 rfl rfl rfl rfl) ?_
      clear hF; intro a hF
      refine seq_wp (wn_none rfl) (wp_store (cs' := #[_, _, _, _]) hF hS rfl rfl rfl rfl 0 rfl sz25 (by simp [Value.cells, Value.oneCell']) (by simp [Value.cells]) rfl ?_)
      clear hF hS; intro a w hF hS
      refine seq_yl hF (wn_none rfl) rfl rfl (yl_assign hF rfl rfl) ?_
      clear hF; intro a hF
      refine wpList_nil ?_
      refine then_n ?_
      refine wp_ret ?_
      refine inb_r ?_
      refine then_r ?_
      refine ret_ct hF rfl (resC hS rfl 0 rfl ag25 sz25) rfl ?_
      replace hS := hS.addNil 39 12
      exact ⟨_, rfl, _, _, _, _, _, _, rfl, push_1 (by first | assumption | (unfold okP; omega)), (hS.sub [0] (by decide) (by first | rfl | simp) (by simp))⟩
    · first | (replace hc94 := of_decide_eq_false hc94) | (replace hc94 := of_decide_eq_true (bnot_f hc94)) | (subst hc94) | (replace hc94 := bnot_f hc94; subst hc94) | (replace hc94 := bnot_f hc94) | skip
      refine seq_yl hF (wn_t hF rfl rfl rfl rfl) rfl rfl (yl_fieldAddr hF rfl rfl (fun w => by kernel_rfl : ∀ w, (Instr.fieldAt 39 (.pointer (some ⟨g90, 0, none⟩)) 1).run Try.prog w = .ok (.pointer (some ⟨g90, 1, none⟩)) w)) ?_
      clear hF; intro a hF
      refine seq_yl hF (wn_t hF rfl rfl rfl rfl) rfl rfl (yl_load (fun _ h => h ▸ hS) hF rfl rfl 1 rfl ag3 rfl) ?_
      clear hF; intro a hF
      refine seq_wp (wn_t hF rfl rfl rfl rfl) (wp_call (vs := [_]) hF rfl rfl rfl rfl cf40 (kind_any (c.f1) _) ?_)
      clear hF; rintro _ w ⟨rfl, hS1⟩ a hF
      replace hS := hS.callB hS1 rfl; clear hS1
      refine seq_yl hF (wn_t hF rfl rfl rfl rfl) rfl rfl (yl_un hF rfl rfl (fun _ => run_not)) ?_
      clear hF; intro a hF
      refine seq_yl hF (wn_none rfl) rfl rfl (yl_pick (u := _) (v := undef) hF rfl rfl (fun h => by cases h) (fun _ => rfl)) ?_
      clear hF; intro a hF
      refine seq_yl hF (wn_none rfl) rfl rfl (yl_move hF rfl rfl) ?_
      clear hF; intro a hF
      refine fr_split hF (fun hc96 hF => ?_) (fun hc96 hF => ?_)
      · first | (replace hc96 := of_decide_eq_true hc96) | (replace hc96 := of_decide_eq_false (bnot_t hc96)) | (subst hc96) | (replace hc96 := bnot_t hc96; subst hc96) | (replace hc96 := bnot_t hc96) | skip
        refine seq_skip hF (wn_f hF rfl rfl rfl rfl) rfl rfl ?_
        clear hF; intro a hF
        refine seq_skip hF (wn_f hF rfl rfl rfl rfl) rfl rfl ?_
        clear hF; intro a hF
        refine seq_skip hF (wn_f hF rfl rfl rfl rfl) rfl rfl ?_
        clear hF; intro a hF
        refine seq_skip hF (wn_f hF rfl rfl rfl rfl) rfl rfl ?_
        clear hF; intro a hF
        refine seq_yl hF (wn_none rfl) rfl rfl (yl_pick (u := _) (v := undef) hF rfl rfl (fun _ => rfl) (fun h => by cases h)) ?_
        clear hF; intro a hF
        refine seq_yl hF (wn_none rfl) rfl rfl (yl_move hF rfl rfl) ?_
        clear hF; intro a hF
        refine seq_skip hF (wn_f hF rfl rfl rfl rfl) rfl rfl ?_
        clear hF; intro a hF
        refine seq_skip hF (wn_f hF rfl rfl rfl rfl) rfl rfl ?_
        clear hF; intro a hF
        refine seq_skip hF (wn_f hF rfl rfl rfl rfl) rfl rfl ?_
        clear hF; intro a hF
        refine seq_skip hF (wn_f hF rfl rfl rfl rfl) rfl rfl ?_
        clear hF; intro a hF
        refine seq_yl hF (wn_none rfl) rfl rfl (yl_pick (u := _) (v := undef) hF rfl rfl (fun _ => rfl) (fun h => by cases h)) ?_
        clear hF; intro a hF
        refine seq_yl hF (wn_none rfl) rfl rfl (yl_move hF rfl rfl) ?_
        clear hF; intro a hF
        refine seq_skip hF (wn_f hF rfl rfl rfl rfl) rfl rfl ?_
        clear hF; intro a hF
        refine seq_skip hF (wn_f hF rfl rfl rfl rfl) rfl rfl ?_
        clear hF; intro a hF
        refine seq_skip hF (wn_f hF rfl rfl rfl rfl) rfl rfl ?_
        clear hF; intro a hF
        refine seq_skip hF (wn_f hF rfl rfl rfl rfl) rfl rfl ?_
        clear hF; intro a hF
        refine seq_yl hF (wn_none rfl) rfl rfl (yl_pick (u := _) (v := undef) hF rfl rfl (fun _ => rfl) (fun h => by cases h)) ?_
        clear hF; intro a hF
        refine seq_yl hF (wn_none rfl) rfl rfl (yl_move hF rfl rfl) ?_
        clear hF; intro a hF
        refine seq_skip hF (wn_f hF rfl rfl rfl rfl) rfl rfl ?_
        clear hF; intro a hF
        refine seq_skip hF (wn_f hF rfl rfl rfl rfl) rfl rfl ?_
        clear hF; intro a hF
        refine seq_skip hF (wn_f hF rfl rfl rfl rfl) rfl rfl ?_
        clear hF; intro a hF
        refine seq_yl hF (wn_none rfl) rfl rfl (yl_pick (u := _) (v := undef) hF rfl rfl (fun _ => rfl) (fun h => by cases h)) ?_
        clear hF; intro a hF
        refine seq_yl hF (wn_none rfl) rfl rfl (yl_move hF rfl rfl) ?_
        clear hF; intro a hF
        refine seq_skip hF (wn_f hF rfl rfl rfl rfl) rfl rfl ?_
        clear hF; intro a hF
        refine seq_skip hF (wn_f hF rfl rfl rfl rfl) rfl rfl ?_
        clear hF; intro a hF
        refine seq_skip hF (wn_f hF rfl rfl rfl rfl) rfl rfl ?_
        clear hF; intro a hF
        refine seq_yl hF (wn_none rfl) rfl rfl (yl_pick (u := _) (v := undef) hF rfl rfl (fun _ => rfl) (fun h => by cases h)) ?_
        clear hF; intro a hF
        refine seq_yl hF (wn_none rfl) rfl rfl (yl_move hF rfl rfl) ?_
        clear hF; intro a hF
        refine seq_skip hF (wn_f hF rfl rfl rfl rfl) rfl rfl ?_
        clear hF; intro a hF
        refine seq_skip hF (wn_f hF rfl rfl rfl rfl) rfl rfl ?_
        clear hF; intro a hF
        refine seq_skip hF (wn_f hF rfl rfl rfl rfl) rfl rfl ?_
        clear hF; intro a hF
        refine seq_skip hF (wn_f hF rfl rfl rfl rfl) rfl rfl ?_
        clear hF; intro a hF
        refine seq_skip hF (wn_f hF rfl rfl rfl rfl) rfl rfl ?_
        clear hF; intro a hF
        refine seq_yl hF (wn_none rfl) rfl rfl (yl_pick (u := _) (v := undef) hF rfl rfl (fun _ => rfl) (fun h => by cases h)) ?_
        clear hF; intro a hF
        refine seq_yl hF (wn_none rfl) rfl rfl (yl_assign hF rfl rfl) ?_
        clear hF; intro a hF
        refine wpList_nil ?_
        refine then_n ?_
        refine c_cond_t hF rfl ?_
        refine c_seq ?_
        refine c_region ?_
        refine seq_yl hF (wn_none rfl) rfl rfl (yl_build (parts := []) (vs := []) (cs := [_, _, _, _]) hF bd25 rfl rfl rfl rfl) ?_
        clear hF; intro a hF
        refine seq_wp (wn_none rfl) (wp_store (cs' := #[_, _, _, _]) hF hS rfl rfl rfl rfl 0 rfl sz25 (by simp [Value.cells, Value.oneCell']) (by simp [Value.cells]) rfl ?_)
        clear hF hS; intro a w hF hS
        refine seq_yl hF (wn_none rfl) rfl rfl (yl_assign hF rfl rfl) ?_
        clear hF; intro a hF
        refine wpList_nil ?_
        refine then_n ?_
        refine wp_ret ?_
        refine inb_r ?_
        refine then_r ?_
        refine ret_ct hF rfl (resC hS rfl 0 rfl ag25 sz25) rfl ?_
        replace hS := hS.addNil 39 12
        exact ⟨_, rfl, _, _, _, _, _, _, rfl, push_1 (by first | assumption | (unfold okP; omega)), (hS.sub [0] (by decide) (by first | rfl | simp) (by simp))⟩
      · first | (replace hc96 := of_decide_eq_false hc96) | (replace hc96 := of_decide_eq_true (bnot_f hc96)) | (subst hc96) | (replace hc96 := bnot_f hc96; subst hc96) | (replace hc96 := bnot_f hc96) | skip
        refine seq_yl hF (wn_t hF rfl rfl rfl rfl) rfl rfl (yl_fieldAddr hF rfl rfl (fun w => by kernel_rfl : ∀ w, (Instr.fieldAt 39 (.pointer (some ⟨g90, 0, none⟩)) 2).run Try.prog w = .ok (.pointer (some ⟨g90, 2, none⟩)) w)) ?_
        clear hF; intro a hF
        refine seq_yl hF (wn_t hF rfl rfl rfl rfl) rfl rfl (yl_load (fun _ h => h ▸ hS) hF rfl rfl 1 rfl ag3 rfl) ?_
        clear hF; intro a hF
        refine seq_wp (wn_t hF rfl rfl rfl rfl) (wp_call (vs := [_]) hF rfl rfl rfl rfl cf41 (place_any (c.f2) _) ?_)
        clear hF; rintro _ w ⟨rfl, hS1⟩ a hF
        replace hS := hS.callB hS1 rfl; clear hS1
        refine seq_yl hF (wn_t hF rfl rfl rfl rfl) rfl rfl (yl_un hF rfl rfl (fun _ => run_not)) ?_
        clear hF; intro a hF
        refine seq_yl hF (wn_none rfl) rfl rfl (yl_pick (u := _) (v := undef) hF rfl rfl (fun h => by cases h) (fun _ => rfl)) ?_
        clear hF; intro a hF
        refine seq_yl hF (wn_none rfl) rfl rfl (yl_move hF rfl rfl) ?_
        clear hF; intro a hF
        refine fr_split hF (fun hc98 hF => ?_) (fun hc98 hF => ?_)
        · first | (replace hc98 := of_decide_eq_true hc98) | (replace hc98 := of_decide_eq_false (bnot_t hc98)) | (subst hc98) | (replace hc98 := bnot_t hc98; subst hc98) | (replace hc98 := bnot_t hc98) | skip
          refine seq_skip hF (wn_f hF rfl rfl rfl rfl) rfl rfl ?_
          clear hF; intro a hF
          refine seq_skip hF (wn_f hF rfl rfl rfl rfl) rfl rfl ?_
          clear hF; intro a hF
          refine seq_skip hF (wn_f hF rfl rfl rfl rfl) rfl rfl ?_
          clear hF; intro a hF
          refine seq_skip hF (wn_f hF rfl rfl rfl rfl) rfl rfl ?_
          clear hF; intro a hF
          refine seq_yl hF (wn_none rfl) rfl rfl (yl_pick (u := _) (v := undef) hF rfl rfl (fun _ => rfl) (fun h => by cases h)) ?_
          clear hF; intro a hF
          refine seq_yl hF (wn_none rfl) rfl rfl (yl_move hF rfl rfl) ?_
          clear hF; intro a hF
          refine seq_skip hF (wn_f hF rfl rfl rfl rfl) rfl rfl ?_
          clear hF; intro a hF
          refine seq_skip hF (wn_f hF rfl rfl rfl rfl) rfl rfl ?_
          clear hF; intro a hF
          refine seq_skip hF (wn_f hF rfl rfl rfl rfl) rfl rfl ?_
          clear hF; intro a hF
          refine seq_skip hF (wn_f hF rfl rfl rfl rfl) rfl rfl ?_
          clear hF; intro a hF
          refine seq_yl hF (wn_none rfl) rfl rfl (yl_pick (u := _) (v := undef) hF rfl rfl (fun _ => rfl) (fun h => by cases h)) ?_
          clear hF; intro a hF
          refine seq_yl hF (wn_none rfl) rfl rfl (yl_move hF rfl rfl) ?_
          clear hF; intro a hF
          refine seq_skip hF (wn_f hF rfl rfl rfl rfl) rfl rfl ?_
          clear hF; intro a hF
          refine seq_skip hF (wn_f hF rfl rfl rfl rfl) rfl rfl ?_
          clear hF; intro a hF
          refine seq_skip hF (wn_f hF rfl rfl rfl rfl) rfl rfl ?_
          clear hF; intro a hF
          refine seq_yl hF (wn_none rfl) rfl rfl (yl_pick (u := _) (v := undef) hF rfl rfl (fun _ => rfl) (fun h => by cases h)) ?_
          clear hF; intro a hF
          refine seq_yl hF (wn_none rfl) rfl rfl (yl_move hF rfl rfl) ?_
          clear hF; intro a hF
          refine seq_skip hF (wn_f hF rfl rfl rfl rfl) rfl rfl ?_
          clear hF; intro a hF
          refine seq_skip hF (wn_f hF rfl rfl rfl rfl) rfl rfl ?_
          clear hF; intro a hF
          refine seq_skip hF (wn_f hF rfl rfl rfl rfl) rfl rfl ?_
          clear hF; intro a hF
          refine seq_yl hF (wn_none rfl) rfl rfl (yl_pick (u := _) (v := undef) hF rfl rfl (fun _ => rfl) (fun h => by cases h)) ?_
          clear hF; intro a hF
          refine seq_yl hF (wn_none rfl) rfl rfl (yl_move hF rfl rfl) ?_
          clear hF; intro a hF
          refine seq_skip hF (wn_f hF rfl rfl rfl rfl) rfl rfl ?_
          clear hF; intro a hF
          refine seq_skip hF (wn_f hF rfl rfl rfl rfl) rfl rfl ?_
          clear hF; intro a hF
          refine seq_skip hF (wn_f hF rfl rfl rfl rfl) rfl rfl ?_
          clear hF; intro a hF
          refine seq_skip hF (wn_f hF rfl rfl rfl rfl) rfl rfl ?_
          clear hF; intro a hF
          refine seq_skip hF (wn_f hF rfl rfl rfl rfl) rfl rfl ?_
          clear hF; intro a hF
          refine seq_yl hF (wn_none rfl) rfl rfl (yl_pick (u := _) (v := undef) hF rfl rfl (fun _ => rfl) (fun h => by cases h)) ?_
          clear hF; intro a hF
          refine seq_yl hF (wn_none rfl) rfl rfl (yl_assign hF rfl rfl) ?_
          clear hF; intro a hF
          refine wpList_nil ?_
          refine then_n ?_
          refine c_cond_t hF rfl ?_
          refine c_seq ?_
          refine c_region ?_
          refine seq_yl hF (wn_none rfl) rfl rfl (yl_build (parts := []) (vs := []) (cs := [_, _, _, _]) hF bd25 rfl rfl rfl rfl) ?_
          clear hF; intro a hF
          refine seq_wp (wn_none rfl) (wp_store (cs' := #[_, _, _, _]) hF hS rfl rfl rfl rfl 0 rfl sz25 (by simp [Value.cells, Value.oneCell']) (by simp [Value.cells]) rfl ?_)
          clear hF hS; intro a w hF hS
          refine seq_yl hF (wn_none rfl) rfl rfl (yl_assign hF rfl rfl) ?_
          clear hF; intro a hF
          refine wpList_nil ?_
          refine then_n ?_
          refine wp_ret ?_
          refine inb_r ?_
          refine then_r ?_
          refine ret_ct hF rfl (resC hS rfl 0 rfl ag25 sz25) rfl ?_
          replace hS := hS.addNil 39 12
          exact ⟨_, rfl, _, _, _, _, _, _, rfl, push_1 (by first | assumption | (unfold okP; omega)), (hS.sub [0] (by decide) (by first | rfl | simp) (by simp))⟩
        · first | (replace hc98 := of_decide_eq_false hc98) | (replace hc98 := of_decide_eq_true (bnot_f hc98)) | (subst hc98) | (replace hc98 := bnot_f hc98; subst hc98) | (replace hc98 := bnot_f hc98) | skip
          refine seq_yl hF (wn_t hF rfl rfl rfl rfl) rfl rfl (yl_fieldAddr hF rfl rfl (fun w => by kernel_rfl : ∀ w, (Instr.fieldAt 39 (.pointer (some ⟨g90, 0, none⟩)) 3).run Try.prog w = .ok (.pointer (some ⟨g90, 3, none⟩)) w)) ?_
          clear hF; intro a hF
          refine seq_yl hF (wn_t hF rfl rfl rfl rfl) rfl rfl (yl_load (fun _ h => h ▸ hS) hF rfl rfl 1 rfl ag3 rfl) ?_
          clear hF; intro a hF
          refine seq_wp (wn_t hF rfl rfl rfl rfl) (wp_call (vs := [_]) hF rfl rfl rfl rfl cf41 (place_any (c.f3) _) ?_)
          clear hF; rintro _ w ⟨rfl, hS1⟩ a hF
          replace hS := hS.callB hS1 rfl; clear hS1
          refine seq_yl hF (wn_t hF rfl rfl rfl rfl) rfl rfl (yl_un hF rfl rfl (fun _ => run_not)) ?_
          clear hF; intro a hF
          refine seq_yl hF (wn_none rfl) rfl rfl (yl_pick (u := _) (v := undef) hF rfl rfl (fun h => by cases h) (fun _ => rfl)) ?_
          clear hF; intro a hF
          refine seq_yl hF (wn_none rfl) rfl rfl (yl_move hF rfl rfl) ?_
          clear hF; intro a hF
          refine fr_split hF (fun hc100 hF => ?_) (fun hc100 hF => ?_)
          · first | (replace hc100 := of_decide_eq_true hc100) | (replace hc100 := of_decide_eq_false (bnot_t hc100)) | (subst hc100) | (replace hc100 := bnot_t hc100; subst hc100) | (replace hc100 := bnot_t hc100) | skip
            refine seq_skip hF (wn_f hF rfl rfl rfl rfl) rfl rfl ?_
            clear hF; intro a hF
            refine seq_skip hF (wn_f hF rfl rfl rfl rfl) rfl rfl ?_
            clear hF; intro a hF
            refine seq_skip hF (wn_f hF rfl rfl rfl rfl) rfl rfl ?_
            clear hF; intro a hF
            refine seq_skip hF (wn_f hF rfl rfl rfl rfl) rfl rfl ?_
            clear hF; intro a hF
            refine seq_yl hF (wn_none rfl) rfl rfl (yl_pick (u := _) (v := undef) hF rfl rfl (fun _ => rfl) (fun h => by cases h)) ?_
            clear hF; intro a hF
            refine seq_yl hF (wn_none rfl) rfl rfl (yl_move hF rfl rfl) ?_
            clear hF; intro a hF
            refine seq_skip hF (wn_f hF rfl rfl rfl rfl) rfl rfl ?_
            clear hF; intro a hF
            refine seq_skip hF (wn_f hF rfl rfl rfl rfl) rfl rfl ?_
            clear hF; intro a hF
            refine seq_skip hF (wn_f hF rfl rfl rfl rfl) rfl rfl ?_
            clear hF; intro a hF
            refine seq_yl hF (wn_none rfl) rfl rfl (yl_pick (u := _) (v := undef) hF rfl rfl (fun _ => rfl) (fun h => by cases h)) ?_
            clear hF; intro a hF
            refine seq_yl hF (wn_none rfl) rfl rfl (yl_move hF rfl rfl) ?_
            clear hF; intro a hF
            refine seq_skip hF (wn_f hF rfl rfl rfl rfl) rfl rfl ?_
            clear hF; intro a hF
            refine seq_skip hF (wn_f hF rfl rfl rfl rfl) rfl rfl ?_
            clear hF; intro a hF
            refine seq_skip hF (wn_f hF rfl rfl rfl rfl) rfl rfl ?_
            clear hF; intro a hF
            refine seq_yl hF (wn_none rfl) rfl rfl (yl_pick (u := _) (v := undef) hF rfl rfl (fun _ => rfl) (fun h => by cases h)) ?_
            clear hF; intro a hF
            refine seq_yl hF (wn_none rfl) rfl rfl (yl_move hF rfl rfl) ?_
            clear hF; intro a hF
            refine seq_skip hF (wn_f hF rfl rfl rfl rfl) rfl rfl ?_
            clear hF; intro a hF
            refine seq_skip hF (wn_f hF rfl rfl rfl rfl) rfl rfl ?_
            clear hF; intro a hF
            refine seq_skip hF (wn_f hF rfl rfl rfl rfl) rfl rfl ?_
            clear hF; intro a hF
            refine seq_skip hF (wn_f hF rfl rfl rfl rfl) rfl rfl ?_
            clear hF; intro a hF
            refine seq_skip hF (wn_f hF rfl rfl rfl rfl) rfl rfl ?_
            clear hF; intro a hF
            refine seq_yl hF (wn_none rfl) rfl rfl (yl_pick (u := _) (v := undef) hF rfl rfl (fun _ => rfl) (fun h => by cases h)) ?_
            clear hF; intro a hF
            refine seq_yl hF (wn_none rfl) rfl rfl (yl_assign hF rfl rfl) ?_
            clear hF; intro a hF
            refine wpList_nil ?_
            refine then_n ?_
            refine c_cond_t hF rfl ?_
            refine c_seq ?_
            refine c_region ?_
            refine seq_yl hF (wn_none rfl) rfl rfl (yl_build (parts := []) (vs := []) (cs := [_, _, _, _]) hF bd25 rfl rfl rfl rfl) ?_
            clear hF; intro a hF
            refine seq_wp (wn_none rfl) (wp_store (cs' := #[_, _, _, _]) hF hS rfl rfl rfl rfl 0 rfl sz25 (by simp [Value.cells, Value.oneCell']) (by simp [Value.cells]) rfl ?_)
            clear hF hS; intro a w hF hS
            refine seq_yl hF (wn_none rfl) rfl rfl (yl_assign hF rfl rfl) ?_
            clear hF; intro a hF
            refine wpList_nil ?_
            refine then_n ?_
            refine wp_ret ?_
            refine inb_r ?_
            refine then_r ?_
            refine ret_ct hF rfl (resC hS rfl 0 rfl ag25 sz25) rfl ?_
            replace hS := hS.addNil 39 12
            exact ⟨_, rfl, _, _, _, _, _, _, rfl, push_1 (by first | assumption | (unfold okP; omega)), (hS.sub [0] (by decide) (by first | rfl | simp) (by simp))⟩
          · first | (replace hc100 := of_decide_eq_false hc100) | (replace hc100 := of_decide_eq_true (bnot_f hc100)) | (subst hc100) | (replace hc100 := bnot_f hc100; subst hc100) | (replace hc100 := bnot_f hc100) | skip
            refine seq_yl hF (wn_t hF rfl rfl rfl rfl) rfl rfl (yl_fieldAddr hF rfl rfl (fun w => by kernel_rfl : ∀ w, (Instr.fieldAt 25 (.pointer (some ⟨g88, 0, none⟩)) 1).run Try.prog w = .ok (.pointer (some ⟨g88, 1, none⟩)) w)) ?_
            clear hF; intro a hF
            refine seq_yl hF (wn_t hF rfl rfl rfl rfl) rfl rfl (yl_load (fun _ h => h ▸ hS) hF rfl rfl 3 rfl ag3 rfl) ?_
            clear hF; intro a hF
            refine seq_wp (wn_t hF rfl rfl rfl rfl) (wp_call (vs := [_]) hF rfl rfl rfl rfl cf41 (place_any (q.h) _) ?_)
            clear hF; rintro _ w ⟨rfl, hS1⟩ a hF
            replace hS := hS.callB hS1 rfl; clear hS1
            refine seq_yl hF (wn_t hF rfl rfl rfl rfl) rfl rfl (yl_un hF rfl rfl (fun _ => run_not)) ?_
            clear hF; intro a hF
            refine seq_yl hF (wn_none rfl) rfl rfl (yl_pick (u := _) (v := undef) hF rfl rfl (fun h => by cases h) (fun _ => rfl)) ?_
            clear hF; intro a hF
            refine seq_yl hF (wn_none rfl) rfl rfl (yl_move hF rfl rfl) ?_
            clear hF; intro a hF
            refine fr_split hF (fun hc102 hF => ?_) (fun hc102 hF => ?_)
            · first | (replace hc102 := of_decide_eq_true hc102) | (replace hc102 := of_decide_eq_false (bnot_t hc102)) | (subst hc102) | (replace hc102 := bnot_t hc102; subst hc102) | (replace hc102 := bnot_t hc102) | skip
              refine seq_skip hF (wn_f hF rfl rfl rfl rfl) rfl rfl ?_
              clear hF; intro a hF
              refine seq_skip hF (wn_f hF rfl rfl rfl rfl) rfl rfl ?_
              clear hF; intro a hF
              refine seq_skip hF (wn_f hF rfl rfl rfl rfl) rfl rfl ?_
              clear hF; intro a hF
              refine seq_yl hF (wn_none rfl) rfl rfl (yl_pick (u := _) (v := undef) hF rfl rfl (fun _ => rfl) (fun h => by cases h)) ?_
              clear hF; intro a hF
              refine seq_yl hF (wn_none rfl) rfl rfl (yl_move hF rfl rfl) ?_
              clear hF; intro a hF
              refine seq_skip hF (wn_f hF rfl rfl rfl rfl) rfl rfl ?_
              clear hF; intro a hF
              refine seq_skip hF (wn_f hF rfl rfl rfl rfl) rfl rfl ?_
              clear hF; intro a hF
              refine seq_skip hF (wn_f hF rfl rfl rfl rfl) rfl rfl ?_
              clear hF; intro a hF
              refine seq_yl hF (wn_none rfl) rfl rfl (yl_pick (u := _) (v := undef) hF rfl rfl (fun _ => rfl) (fun h => by cases h)) ?_
              clear hF; intro a hF
              refine seq_yl hF (wn_none rfl) rfl rfl (yl_move hF rfl rfl) ?_
              clear hF; intro a hF
              refine seq_skip hF (wn_f hF rfl rfl rfl rfl) rfl rfl ?_
              clear hF; intro a hF
              refine seq_skip hF (wn_f hF rfl rfl rfl rfl) rfl rfl ?_
              clear hF; intro a hF
              refine seq_skip hF (wn_f hF rfl rfl rfl rfl) rfl rfl ?_
              clear hF; intro a hF
              refine seq_skip hF (wn_f hF rfl rfl rfl rfl) rfl rfl ?_
              clear hF; intro a hF
              refine seq_skip hF (wn_f hF rfl rfl rfl rfl) rfl rfl ?_
              clear hF; intro a hF
              refine seq_yl hF (wn_none rfl) rfl rfl (yl_pick (u := _) (v := undef) hF rfl rfl (fun _ => rfl) (fun h => by cases h)) ?_
              clear hF; intro a hF
              refine seq_yl hF (wn_none rfl) rfl rfl (yl_assign hF rfl rfl) ?_
              clear hF; intro a hF
              refine wpList_nil ?_
              refine then_n ?_
              refine c_cond_t hF rfl ?_
              refine c_seq ?_
              refine c_region ?_
              refine seq_yl hF (wn_none rfl) rfl rfl (yl_build (parts := []) (vs := []) (cs := [_, _, _, _]) hF bd25 rfl rfl rfl rfl) ?_
              clear hF; intro a hF
              refine seq_wp (wn_none rfl) (wp_store (cs' := #[_, _, _, _]) hF hS rfl rfl rfl rfl 0 rfl sz25 (by simp [Value.cells, Value.oneCell']) (by simp [Value.cells]) rfl ?_)
              clear hF hS; intro a w hF hS
              refine seq_yl hF (wn_none rfl) rfl rfl (yl_assign hF rfl rfl) ?_
              clear hF; intro a hF
              refine wpList_nil ?_
              refine then_n ?_
              refine wp_ret ?_
              refine inb_r ?_
              refine then_r ?_
              refine ret_ct hF rfl (resC hS rfl 0 rfl ag25 sz25) rfl ?_
              replace hS := hS.addNil 39 12
              exact ⟨_, rfl, _, _, _, _, _, _, rfl, push_1 (by first | assumption | (unfold okP; omega)), (hS.sub [0] (by decide) (by first | rfl | simp) (by simp))⟩
            · first | (replace hc102 := of_decide_eq_false hc102) | (replace hc102 := of_decide_eq_true (bnot_f hc102)) | (subst hc102) | (replace hc102 := bnot_f hc102; subst hc102) | (replace hc102 := bnot_f hc102) | skip
              refine seq_yl hF (wn_t hF rfl rfl rfl rfl) rfl rfl (yl_fieldAddr hF rfl rfl (fun w => by kernel_rfl : ∀ w, (Instr.fieldAt 25 (.pointer (some ⟨g88, 0, none⟩)) 2).run Try.prog w = .ok (.pointer (some ⟨g88, 2, none⟩)) w)) ?_
              clear hF; intro a hF
              refine seq_yl hF (wn_t hF rfl rfl rfl rfl) rfl rfl (yl_load (fun _ h => h ▸ hS) hF rfl rfl 3 rfl ag3 rfl) ?_
              clear hF; intro a hF
              refine seq_yl hF (wn_t hF rfl rfl rfl rfl) rfl rfl (yl_bin hF rfl rfl rfl rfl (fun _ => run_lss)) ?_
              clear hF; intro a hF
              refine seq_yl hF (wn_none rfl) rfl rfl (yl_pick (u := _) (v := undef) hF rfl rfl (fun h => by cases h) (fun _ => rfl)) ?_
              clear hF; intro a hF
              refine seq_yl hF (wn_none rfl) rfl rfl (yl_move hF rfl rfl) ?_
              clear hF; intro a hF
              refine fr_split hF (fun hc104 hF => ?_) (fun hc104 hF => ?_)
              · first | (replace hc104 := of_decide_eq_true hc104) | (replace hc104 := of_decide_eq_false (bnot_t hc104)) | (subst hc104) | (replace hc104 := bnot_t hc104; subst hc104) | (replace hc104 := bnot_t hc104) | skip
                refine seq_skip hF (wn_f hF rfl rfl rfl rfl) rfl rfl ?_
                clear hF; intro a hF
                refine seq_skip hF (wn_f hF rfl rfl rfl rfl) rfl rfl ?_
                clear hF; intro a hF
                refine seq_skip hF (wn_f hF rfl rfl rfl rfl) rfl rfl ?_
                clear hF; intro a hF
                refine seq_yl hF (wn_none rfl) rfl rfl (yl_pick (u := _) (v := undef) hF rfl rfl (fun _ => rfl) (fun h => by cases h)) ?_
                clear hF; intro a hF
                refine seq_yl hF (wn_none rfl) rfl rfl (yl_move hF rfl rfl) ?_
                clear hF; intro a hF
                refine seq_skip hF (wn_f hF rfl rfl rfl rfl) rfl rfl ?_
                clear hF; intro a hF
                refine seq_skip hF (wn_f hF rfl rfl rfl rfl) rfl rfl ?_
                clear hF; intro a hF
                refine seq_skip hF (wn_f hF rfl rfl rfl rfl) rfl rfl ?_
                clear hF; intro a hF
                refine seq_skip hF (wn_f hF rfl rfl rfl rfl) rfl rfl ?_
                clear hF; intro a hF
                refine seq_skip hF (wn_f hF rfl rfl rfl rfl) rfl rfl ?_
                clear hF; intro a hF
                refine seq_yl hF (wn_none rfl) rfl rfl (yl_pick (u := _) (v := undef) hF rfl rfl (fun _ => rfl) (fun h => by cases h)) ?_
                clear hF; intro a hF
                refine seq_yl hF (wn_none rfl) rfl rfl (yl_assign hF rfl rfl) ?_
                clear hF; intro a hF
                refine wpList_nil ?_
                refine then_n ?_
                refine c_cond_t hF rfl ?_
                refine c_seq ?_
                refine c_region ?_
                refine seq_yl hF (wn_none rfl) rfl rfl (yl_build (parts := []) (vs := []) (cs := [_, _, _, _]) hF bd25 rfl rfl rfl rfl) ?_
                clear hF; intro a hF
                refine seq_wp (wn_none rfl) (wp_store (cs' := #[_, _, _, _]) hF hS rfl rfl rfl rfl 0 rfl sz25 (by simp [Value.cells, Value.oneCell']) (by simp [Value.cells]) rfl ?_)
                clear hF hS; intro a w hF hS
                refine seq_yl hF (wn_none rfl) rfl rfl (yl_assign hF rfl rfl) ?_
                clear hF; intro a hF
                refine wpList_nil ?_
                refine then_n ?_
                refine wp_ret ?_
                refine inb_r ?_
                refine then_r ?_
                refine ret_ct hF rfl (resC hS rfl 0 rfl ag25 sz25) rfl ?_
                replace hS := hS.addNil 39 12
                exact ⟨_, rfl, _, _, _, _, _, _, rfl, push_1 (by first | assumption | (unfold okP; omega)), (hS.sub [0] (by decide) (by first | rfl | simp) (by simp))⟩
              · first | (replace hc104 := of_decide_eq_false hc104) | (replace hc104 := of_decide_eq_true (bnot_f hc104)) | (subst hc104) | (replace hc104 := bnot_f hc104; subst hc104) | (replace hc104 := bnot_f hc104) | skip
                refine seq_yl hF (wn_t hF rfl rfl rfl rfl) rfl rfl (yl_fieldAddr hF rfl rfl (fun w => by kernel_rfl : ∀ w, (Instr.fieldAt 25 (.pointer (some ⟨g88, 0, none⟩)) 2).run Try.prog w = .ok (.pointer (some ⟨g88, 2, none⟩)) w)) ?_
                clear hF; intro a hF
                refine seq_yl hF (wn_t hF rfl rfl rfl rfl) rfl rfl (yl_load (fun _ h => h ▸ hS) hF rfl rfl 3 rfl ag3 rfl) ?_
                clear hF; intro a hF
                refine seq_yl hF (wn_t hF rfl rfl rfl rfl) rfl rfl (yl_bin hF rfl rfl rfl rfl (fun _ => run_gtr)) ?_
                clear hF; intro a hF
                refine seq_yl hF (wn_none rfl) rfl rfl (yl_pick (u := _) (v := undef) hF rfl rfl (fun h => by cases h) (fun _ => rfl)) ?_
                clear hF; intro a hF
                refine seq_yl hF (wn_none rfl) rfl rfl (yl_move hF rfl rfl) ?_
                clear hF; intro a hF
                refine fr_split hF (fun hc106 hF => ?_) (fun hc106 hF => ?_)
                · first | (replace hc106 := of_decide_eq_true hc106) | (replace hc106 := of_decide_eq_false (bnot_t hc106)) | (subst hc106) | (replace hc106 := bnot_t hc106; subst hc106) | (replace hc106 := bnot_t hc106) | skip
                  refine seq_skip hF (wn_f hF rfl rfl rfl rfl) rfl rfl ?_
                  clear hF; intro a hF
                  refine seq_skip hF (wn_f hF rfl rfl rfl rfl) rfl rfl ?_
                  clear hF; intro a hF
                  refine seq_skip hF (wn_f hF rfl rfl rfl rfl) rfl rfl ?_
                  clear hF; intro a hF
                  refine seq_skip hF (wn_f hF rfl rfl rfl rfl) rfl rfl ?_
                  clear hF; intro a hF
                  refine seq_skip hF (wn_f hF rfl rfl rfl rfl) rfl rfl ?_
                  clear hF; intro a hF
                  refine seq_yl hF (wn_none rfl) rfl rfl (yl_pick (u := _) (v := undef) hF rfl rfl (fun _ => rfl) (fun h => by cases h)) ?_
                  clear hF; intro a hF
                  refine seq_yl hF (wn_none rfl) rfl rfl (yl_assign hF rfl rfl) ?_
                  clear hF; intro a hF
                  refine wpList_nil ?_
                  refine then_n ?_
                  refine c_cond_t hF rfl ?_
                  refine c_seq ?_
                  refine c_region ?_
                  refine seq_yl hF (wn_none rfl) rfl rfl (yl_build (parts := []) (vs := []) (cs := [_, _, _, _]) hF bd25 rfl rfl rfl rfl) ?_
                  clear hF; intro a hF
                  refine seq_wp (wn_none rfl) (wp_store (cs' := #[_, _, _, _]) hF hS rfl rfl rfl rfl 0 rfl sz25 (by simp [Value.cells, Value.oneCell']) (by simp [Value.cells]) rfl ?_)
                  clear hF hS; intro a w hF hS
                  refine seq_yl hF (wn_none rfl) rfl rfl (yl_assign hF rfl rfl) ?_
                  clear hF; intro a hF
                  refine wpList_nil ?_
                  refine then_n ?_
                  refine wp_ret ?_
                  refine inb_r ?_
                  refine then_r ?_
                  refine ret_ct hF rfl (resC hS rfl 0 rfl ag25 sz25) rfl ?_
                  replace hS := hS.addNil 39 12
                  exact ⟨_, rfl, _, _, _, _, _, _, rfl, push_1 (by first | assumption | (unfold okP; omega)), (hS.sub [0] (by decide) (by first | rfl | simp) (by simp))⟩
                · first | (replace hc106 := of_decide_eq_false hc106) | (replace hc106 := of_decide_eq_true (bnot_f hc106)) | (subst hc106) | (replace hc106 := bnot_f hc106; subst hc106) | (replace hc106 := bnot_f hc106) | skip
                  refine seq_yl hF (wn_t hF rfl rfl rfl rfl) rfl rfl (yl_fieldAddr hF rfl rfl (fun w => by kernel_rfl : ∀ w, (Instr.fieldAt 39 (.pointer (some ⟨g90, 0, none⟩)) 8).run Try.prog w = .ok (.pointer (some ⟨g90, 8, none⟩)) w)) ?_
                  clear hF; intro a hF
                  refine seq_yl hF (wn_t hF rfl rfl rfl rfl) rfl rfl (yl_fieldAddr hF rfl rfl (fun w => by kernel_rfl : ∀ w, (Instr.fieldAt 34 (.pointer (some ⟨g90, 8, none⟩)) 3).run Try.prog w = .ok (.pointer (some ⟨g90, 11, none⟩)) w)) ?_
                  clear hF; intro a hF
                  refine seq_yl hF (wn_t hF rfl rfl rfl rfl) rfl rfl (yl_load (fun _ h => h ▸ hS) hF rfl rfl 1 rfl ag3 rfl) ?_
                  clear hF; intro a hF
                  refine seq_wp (wn_t hF rfl rfl rfl rfl) (wp_call (vs := [_]) hF rfl rfl rfl rfl cf39 (tick_any (c.f11) _) ?_)
                  clear hF; rintro _ w ⟨rfl, hS1⟩ a hF
                  replace hS := hS.callB hS1 rfl; clear hS1
                  refine seq_yl hF (wn_t hF rfl rfl rfl rfl) rfl rfl (yl_un hF rfl rfl (fun _ => run_not)) ?_
                  clear hF; intro a hF
                  refine seq_yl hF (wn_none rfl) rfl rfl (yl_pick (u := _) (v := undef) hF rfl rfl (fun h => by cases h) (fun _ => rfl)) ?_
                  clear hF; intro a hF
                  refine seq_yl hF (wn_none rfl) rfl rfl (yl_assign hF rfl rfl) ?_
                  clear hF; intro a hF
                  refine wpList_nil ?_
                  refine then_n ?_
                  refine c_cond hF rfl (fun hc108 => ?_) (fun hc108 => ?_)
                  · first | (replace hc108 := of_decide_eq_true hc108) | (replace hc108 := of_decide_eq_false (bnot_t hc108)) | (subst hc108) | (replace hc108 := bnot_t hc108; subst hc108) | (replace hc108 := bnot_t hc108) | skip
                    refine c_seq ?_
                    refine c_region ?_
                    refine seq_yl hF (wn_none rfl) rfl rfl (yl_build (parts := []) (vs := []) (cs := [_, _, _, _]) hF bd25 rfl rfl rfl rfl) ?_
                    clear hF; intro a hF
                    refine seq_wp (wn_none rfl) (wp_store (cs' := #[_, _, _, _]) hF hS rfl rfl rfl rfl 0 rfl sz25 (by simp [Value.cells, Value.oneCell']) (by simp [Value.cells]) rfl ?_)
                    clear hF hS; intro a w hF hS
                    refine seq_yl hF (wn_none rfl) rfl rfl (yl_assign hF rfl rfl) ?_
                    clear hF; intro a hF
                    refine wpList_nil ?_
                    refine then_n ?_
                    refine wp_ret ?_
                    refine inb_r ?_
                    refine then_r ?_
                    refine ret_ct hF rfl (resC hS rfl 0 rfl ag25 sz25) rfl ?_
                    replace hS := hS.addNil 39 12
                    exact ⟨_, rfl, _, _, _, _, _, _, rfl, push_1 (by first | assumption | (unfold okP; omega)), (hS.sub [0] (by decide) (by first | rfl | simp) (by simp))⟩
                  · first | (replace hc108 := of_decide_eq_false hc108) | (replace hc108 := of_decide_eq_true (bnot_f hc108)) | (subst hc108) | (replace hc108 := bnot_f hc108; subst hc108) | (replace hc108 := bnot_f hc108) | skip
                    refine c_seq ?_
                    refine c_region ?_
                    have hok : okP b e m q.h q.f now c.f1 c.f2 c.f3 c.f11 := by first | assumption | (unfold okP; omega)
                    have hok2 := hok; unfold okP at hok2
                    refine seq_yl hF (wn_none rfl) rfl rfl (yl_fieldAddr hF rfl rfl (fun w => by kernel_rfl : ∀ w, (Instr.fieldAt 25 (.pointer (some ⟨g88, 0, none⟩)) 3).run Try.prog w = .ok (.pointer (some ⟨g88, 3, none⟩)) w)) ?_
                    clear hF; intro a hF
                    refine seq_yl hF (wn_none rfl) rfl rfl (yl_load (fun _ h => h ▸ hS) hF rfl rfl 3 rfl ag23 rfl) ?_
                    clear hF; intro a hF
                    refine seq_yl hF (wn_none rfl) rfl rfl (yl_fieldAddr hF rfl rfl (fun w => by kernel_rfl : ∀ w, (Instr.fieldAt 39 (.pointer (some ⟨g90, 0, none⟩)) 0).run Try.prog w = .ok (.pointer (some ⟨g90, 0, none⟩)) w)) ?_
                    clear hF; intro a hF
                    refine seq_yl hF (wn_none rfl) rfl rfl (yl_load (fun _ h => h ▸ hS) hF rfl rfl 1 rfl ag3 rfl) ?_
                    clear hF; intro a hF
                    refine seq_wp (wn_none rfl) (wp_call (vs := [_, _]) hF rfl rfl rfl rfl cf42 (find_any _ q.L (c.f0) _ (hS.rdRo 4 rfl) (by first | omega | (simp; done) | (simp; omega))) ?_)
                    clear hF; rintro _ w ⟨rfl, hS1⟩ a hF
                    replace hS := hS.callB hS1 rfl; clear hS1
                    refine seq_yl hF (wn_none rfl) rfl rfl (yl_bin hF rfl rfl rfl rfl (fun _ => run_geq)) ?_
                    clear hF; intro a hF
                    refine seq_yl hF (wn_none rfl) rfl rfl (yl_assign hF rfl rfl) ?_
                    clear hF; intro a hF
                    refine wpList_nil ?_
                    refine then_n ?_
                    refine c_cond hF rfl (fun hc110 => ?_) (fun hc110 => ?_)
                    · first | (replace hc110 := of_decide_eq_true hc110) | (replace hc110 := of_decide_eq_false (bnot_t hc110)) | (subst hc110) | (replace hc110 := bnot_t hc110; subst hc110) | (replace hc110 := bnot_t hc110) | skip
                      refine c_seq ?_
                      refine c_region ?_
                      refine seq_yl hF (wn_none rfl) rfl rfl (yl_build (parts := []) (vs := []) (cs := [_, _, _, _]) hF bd25 rfl rfl rfl rfl) ?_
                      clear hF; intro a hF
                      refine seq_wp (wn_none rfl) (wp_store (cs' := #[_, _, _, _]) hF hS rfl rfl rfl rfl 0 rfl sz25 (by simp [Value.cells, Value.oneCell']) (by simp [Value.cells]) rfl ?_)
                      clear hF hS; intro a w hF hS
                      refine seq_yl hF (wn_none rfl) rfl rfl (yl_assign hF rfl rfl) ?_
                      clear hF; intro a hF
                      refine wpList_nil ?_
                      refine then_n ?_
                      refine wp_ret ?_
                      refine inb_r ?_
                      refine then_r ?_
                      refine ret_ct hF rfl (resC hS rfl 0 rfl ag25 sz25) rfl ?_
                      replace hS := hS.addNil 39 12
                      exact ⟨_, rfl, _, _, _, _, _, _, rfl, push_5 hok (by first | assumption | exact (cont_idx _ _).symm.trans (decide_eq_true (by assumption))), (hS.sub [0] (by decide) (by first | rfl | simp) (by simp))⟩
                    · first | (replace hc110 := of_decide_eq_false hc110) | (replace hc110 := of_decide_eq_true (bnot_f hc110)) | (subst hc110) | (replace hc110 := bnot_f hc110; subst hc110) | (replace hc110 := bnot_f hc110) | skip
                      refine c_seq ?_
                      refine c_region ?_
                      refine seq_yl hF (wn_none rfl) rfl rfl (yl_fieldAddr hF rfl rfl (fun w => by kernel_rfl : ∀ w, (Instr.fieldAt 25 (.pointer (some ⟨g88, 0, none⟩)) 3).run Try.prog w = .ok (.pointer (some ⟨g88, 3, none⟩)) w)) ?_
                      clear hF; intro a hF
                      refine seq_yl hF (wn_none rfl) rfl rfl (yl_load (fun _ h => h ▸ hS) hF rfl rfl 3 rfl ag23 rfl) ?_
                      clear hF; intro a hF
                      refine seq_yl hF (wn_none rfl) rfl rfl (yl_len hF rfl rfl (fun _ => run_lenRd sl23 (hS.rdRo 4 rfl))) ?_
                      clear hF; intro a hF
                      refine seq_yl hF (wn_none rfl) rfl rfl (yl_fieldAddr hF rfl rfl (fun w => by kernel_rfl : ∀ w, (Instr.fieldAt 25 (.pointer (some ⟨g88, 0, none⟩)) 0).run Try.prog w = .ok (.pointer (some ⟨g88, 0, none⟩)) w)) ?_
                      clear hF; intro a hF
                      refine seq_yl hF (wn_none rfl) rfl rfl (yl_load (fun _ h => h ▸ hS) hF rfl rfl 3 rfl ag3 rfl) ?_
                      clear hF; intro a hF
                      refine seq_yl hF (wn_none rfl) rfl rfl (yl_bin hF rfl rfl rfl rfl (fun _ => run_geq)) ?_
                      clear hF; intro a hF
                      refine seq_yl hF (wn_none rfl) rfl rfl (yl_move hF rfl rfl) ?_
                      clear hF; intro a hF
                      refine fr_split hF (fun hc112 hF => ?_) (fun hc112 hF => ?_)
                      · first | (replace hc112 := of_decide_eq_true hc112) | (replace hc112 := of_decide_eq_false (bnot_t hc112)) | (subst hc112) | (replace hc112 := bnot_t hc112; subst hc112) | (replace hc112 := bnot_t hc112) | skip
                        refine seq_skip hF (wn_f hF rfl rfl rfl rfl) rfl rfl ?_
                        clear hF; intro a hF
                        refine seq_skip hF (wn_f hF rfl rfl rfl rfl) rfl rfl ?_
                        clear hF; intro a hF
                        refine seq_skip hF (wn_f hF rfl rfl rfl rfl) rfl rfl ?_
                        clear hF; intro a hF
                        refine seq_skip hF (wn_f hF rfl rfl rfl rfl) rfl rfl ?_
                        clear hF; intro a hF
                        refine seq_yl hF (wn_none rfl) rfl rfl (yl_pick (u := _) (v := undef) hF rfl rfl (fun _ => rfl) (fun h => by cases h)) ?_
                        clear hF; intro a hF
                        refine seq_yl hF (wn_none rfl) rfl rfl (yl_assign hF rfl rfl) ?_
                        clear hF; intro a hF
                        refine wpList_nil ?_
                        refine then_n ?_
                        refine c_cond_t hF rfl ?_
                        refine c_seq ?_
                        refine c_region ?_
                        refine seq_yl hF (wn_none rfl) rfl rfl (yl_build (parts := []) (vs := []) (cs := [_, _, _, _]) hF bd25 rfl rfl rfl rfl) ?_
                        clear hF; intro a hF
                        refine seq_wp (wn_none rfl) (wp_store (cs' := #[_, _, _, _]) hF hS rfl rfl rfl rfl 0 rfl sz25 (by simp [Value.cells, Value.oneCell']) (by simp [Value.cells]) rfl ?_)
                        clear hF hS; intro a w hF hS
                        refine seq_yl hF (wn_none rfl) rfl rfl (yl_assign hF rfl rfl) ?_
                        clear hF; intro a hF
                        refine wpList_nil ?_
                        refine then_n ?_
                        refine wp_ret ?_
                        refine inb_r ?_
                        refine then_r ?_
                        refine ret_ct hF rfl (resC hS rfl 0 rfl ag25 sz25) rfl ?_
                        replace hS := hS.addNil 39 12
                        exact ⟨_, rfl, _, _, _, _, _, _, rfl, push_3 hok (by first | assumption | exact (cont_idx _ _).symm.trans (decide_eq_false (by assumption))) (by omega), (hS.sub [0] (by decide) (by first | rfl | simp) (by simp))⟩
                      · first | (replace hc112 := of_decide_eq_false hc112) | (replace hc112 := of_decide_eq_true (bnot_f hc112)) | (subst hc112) | (replace hc112 := bnot_f hc112; subst hc112) | (replace hc112 := bnot_f hc112) | skip
                        refine seq_yl hF (wn_t hF rfl rfl rfl rfl) rfl rfl (yl_fieldAddr hF rfl rfl (fun w => by kernel_rfl : ∀ w, (Instr.fieldAt 25 (.pointer (some ⟨g88, 0, none⟩)) 3).run Try.prog w = .ok (.pointer (some ⟨g88, 3, none⟩)) w)) ?_
                        clear hF; intro a hF
                        refine seq_yl hF (wn_t hF rfl rfl rfl rfl) rfl rfl (yl_load (fun _ h => h ▸ hS) hF rfl rfl 3 rfl ag23 rfl) ?_
                        clear hF; intro a hF
                        refine seq_yl hF (wn_t hF rfl rfl rfl rfl) rfl rfl (yl_len hF rfl rfl (fun _ => run_lenRd sl23 (hS.rdRo 4 rfl))) ?_
                        clear hF; intro a hF
                        refine seq_yl hF (wn_t hF rfl rfl rfl rfl) rfl rfl (yl_bin hF rfl rfl rfl rfl (fun _ => run_geq)) ?_
                        clear hF; intro a hF
                        refine seq_yl hF (wn_none rfl) rfl rfl (yl_pick (u := _) (v := undef) hF rfl rfl (fun h => by cases h) (fun _ => rfl)) ?_
                        clear hF; intro a hF
                        refine seq_yl hF (wn_none rfl) rfl rfl (yl_assign hF rfl rfl) ?_
                        clear hF; intro a hF
                        refine wpList_nil ?_
                        refine then_n ?_
                        refine c_cond hF rfl (fun hc114 => ?_) (fun hc114 => ?_)
                        · first | (replace hc114 := of_decide_eq_true hc114) | (replace hc114 := of_decide_eq_false (bnot_t hc114)) | (subst hc114) | (replace hc114 := bnot_t hc114; subst hc114) | (replace hc114 := bnot_t hc114) | skip
                          refine c_seq ?_
                          refine c_region ?_
                          refine seq_yl hF (wn_none rfl) rfl rfl (yl_build (parts := []) (vs := []) (cs := [_, _, _, _]) hF bd25 rfl rfl rfl rfl) ?_
                          clear hF; intro a hF
                          refine seq_wp (wn_none rfl) (wp_store (cs' := #[_, _, _, _]) hF hS rfl rfl rfl rfl 0 rfl sz25 (by simp [Value.cells, Value.oneCell']) (by simp [Value.cells]) rfl ?_)
                          clear hF hS; intro a w hF hS
                          refine seq_yl hF (wn_none rfl) rfl rfl (yl_assign hF rfl rfl) ?_
                          clear hF; intro a hF
                          refine wpList_nil ?_
                          refine then_n ?_
                          refine wp_ret ?_
                          refine inb_r ?_
                          refine then_r ?_
                          refine ret_ct hF rfl (resC hS rfl 0 rfl ag25 sz25) rfl ?_
                          replace hS := hS.addNil 39 12
                          exact ⟨_, rfl, _, _, _, _, _, _, rfl, push_3 hok (by first | assumption | exact (cont_idx _ _).symm.trans (decide_eq_false (by assumption))) (by omega), (hS.sub [0] (by decide) (by first | rfl | simp) (by simp))⟩
                        · first | (replace hc114 := of_decide_eq_false hc114) | (replace hc114 := of_decide_eq_true (bnot_f hc114)) | (subst hc114) | (replace hc114 := bnot_f hc114; subst hc114) | (replace hc114 := bnot_f hc114) | skip
                          refine wp_skip ?_
                          refine inb_n ?_
                          refine then_n ?_
                          refine c_seq ?_
                          refine c_region ?_
                          refine seq_yl hF (wn_none rfl) rfl rfl (yl_move hF rfl rfl) ?_
                          clear hF; intro a hF
                          refine seq_yl hF (wn_none rfl) rfl rfl (yl_fieldAddr hF rfl rfl (fun w => by kernel_rfl : ∀ w, (Instr.fieldAt 25 (.pointer (some ⟨g88, 0, none⟩)) 2).run Try.prog w = .ok (.pointer (some ⟨g88, 2, none⟩)) w)) ?_
                          clear hF; intro a hF
                          refine seq_yl hF (wn_none rfl) rfl rfl (yl_load (fun _ h => h ▸ hS) hF rfl rfl 3 rfl ag3 rfl) ?_
                          clear hF; intro a hF
                          refine seq_yl hF (wn_none rfl) rfl rfl (yl_max2 hF rfl rfl rfl) ?_
                          clear hF; intro a hF
                          refine seq_yl hF (wn_none rfl) rfl rfl (yl_fieldAddr hF rfl rfl (fun w => by kernel_rfl : ∀ w, (Instr.fieldAt 39 (.pointer (some ⟨g90, 0, none⟩)) 6).run Try.prog w = .ok (.pointer (some ⟨g90, 6, none⟩)) w)) ?_
                          clear hF; intro a hF
                          refine seq_wp (wn_none rfl) (wp_store (cs' := #[_, _, _, _, _, _, _, _, _, _, _, _]) hF hS rfl rfl rfl rfl 1 rfl sz3 (by simp [Value.cells, Value.oneCell']) (by simp [Value.cells]) rfl ?_)
                          clear hF hS; intro a w hF hS
                          refine seq_yl hF (wn_none rfl) rfl rfl (yl_fieldAddr hF rfl rfl (fun w => by kernel_rfl : ∀ w, (Instr.fieldAt 39 (.pointer (some ⟨g90, 0, none⟩)) 7).run Try.prog w = .ok (.pointer (some ⟨g90, 7, none⟩)) w)) ?_
                          clear hF; intro a hF
                          refine seq_wp (wn_none rfl) (wp_store (cs' := #[_, _, _, _, _, _, _, _, _, _, _, _]) hF hS rfl rfl rfl rfl 1 rfl sz3 (by simp [Value.cells, Value.oneCell']) (by simp [Value.cells]) rfl ?_)
                          clear hF hS; intro a w hF hS
                          refine wpList_nil ?_
                          refine then_n ?_
                          refine c_seq ?_
                          refine c_seq ?_
                          refine c_region ?_
                          refine seq_yl hF (wn_none rfl) rfl rfl (yl_fieldAddr hF rfl rfl (fun w => by kernel_rfl : ∀ w, (Instr.fieldAt 39 (.pointer (some ⟨g90, 0, none⟩)) 8).run Try.prog w = .ok (.pointer (some ⟨g90, 8, none⟩)) w)) ?_
                          clear hF; intro a hF
                          refine seq_yl hF (wn_none rfl) rfl rfl (yl_fieldAddr hF rfl rfl (fun w => by kernel_rfl : ∀ w, (Instr.fieldAt 34 (.pointer (some ⟨g90, 8, none⟩)) 0).run Try.prog w = .ok (.pointer (some ⟨g90, 8, none⟩)) w)) ?_
                          clear hF; intro a hF
                          refine seq_yl hF (wn_none rfl) rfl rfl (yl_load (fun _ h => h ▸ hS) hF rfl rfl 1 rfl ag32 rfl) ?_
                          clear hF; intro a hF
                          refine seq_yl hF (wn_none rfl) rfl rfl (yl_bin hF rfl rfl rfl rfl (fun _ => run_neq)) ?_
                          clear hF; intro a hF
                          refine wpList_nil ?_
                          refine then_n ?_
                          refine c_cond hF rfl (fun hc116 => ?_) (fun hc116 => ?_)
                          · first | (replace hc116 := of_decide_eq_true hc116) | (replace hc116 := of_decide_eq_false (bnot_t hc116)) | (subst hc116) | (replace hc116 := bnot_t hc116; subst hc116) | (replace hc116 := bnot_t hc116) | skip
                            refine c_seq ?_
                            refine ha_startS hS [1, 2, 3] 18 (by kernel_rfl) ?_; clear hS; intro w hS
                            have hSS := hS.sub [1, 2, 3] (by decide) rfl (by simp)
                            refine ha_y 0 hF rfl rfl rfl (wn_none rfl) (.inr hSS) (yl_fieldAddr hF rfl rfl (fun w => by kernel_rfl : ∀ w, (Instr.fieldAt 39 (.pointer (some ⟨g90, 0, none⟩)) 6).run Try.prog w = .ok (.pointer (some ⟨g90, 6, none⟩)) w)) ?_
                            clear hF; intro a hF
                            refine ha_y 3 hF rfl rfl rfl (wn_none rfl) (.inr hSS) (yl_fieldAddr hF rfl rfl (fun w => by kernel_rfl : ∀ w, (Instr.fieldAt 25 (.pointer (some ⟨g88, 0, none⟩)) 1).run Try.prog w = .ok (.pointer (some ⟨g88, 1, none⟩)) w)) ?_
                            clear hF; intro a hF
                            refine ha_y 5 hF rfl rfl rfl (wn_none rfl) (.inr hSS) (yl_fieldAddr hF rfl rfl (fun w => by kernel_rfl : ∀ w, (Instr.fieldAt 39 (.pointer (some ⟨g90, 0, none⟩)) 1).run Try.prog w = .ok (.pointer (some ⟨g90, 1, none⟩)) w)) ?_
                            clear hF; intro a hF
                            refine ha_y 7 hF rfl rfl rfl (wn_none rfl) (.inr hSS) (yl_fieldAddr hF rfl rfl (fun w => by kernel_rfl : ∀ w, (Instr.fieldAt 39 (.pointer (some ⟨g90, 0, none⟩)) 2).run Try.prog w = .ok (.pointer (some ⟨g90, 2, none⟩)) w)) ?_
                            clear hF; intro a hF
                            refine ha_y 9 hF rfl rfl rfl (wn_none rfl) (.inr hSS) (yl_fieldAddr hF rfl rfl (fun w => by kernel_rfl : ∀ w, (Instr.fieldAt 39 (.pointer (some ⟨g90, 0, none⟩)) 3).run Try.prog w = .ok (.pointer (some ⟨g90, 3, none⟩)) w)) ?_
                            clear hF; intro a hF
                            refine ha_y 13 hF rfl rfl rfl (wn_none rfl) (.inr hSS) (yl_fieldAddr hF rfl rfl (fun w => by kernel_rfl : ∀ w, (Instr.fieldAt 39 (.pointer (some ⟨g90, 0, none⟩)) 8).run Try.prog w = .ok (.pointer (some ⟨g90, 8, none⟩)) w)) ?_
                            clear hF; intro a hF
                            refine ha_y 14 hF rfl rfl rfl (wn_none rfl) (.inr hSS) (yl_fieldAddr hF rfl rfl (fun w => by kernel_rfl : ∀ w, (Instr.fieldAt 34 (.pointer (some ⟨g90, 8, none⟩)) 3).run Try.prog w = .ok (.pointer (some ⟨g90, 11, none⟩)) w)) ?_
                            clear hF; intro a hF
                            refine ha_l 1 hF rfl rfl rfl (wn_none rfl) hSS (yl_load (fun _ h => h) hF rfl rfl 0 rfl ag3 rfl) ?_
                            clear hF; intro a hF
                            refine ha_l 2 hF rfl rfl rfl (wn_none rfl) hSS (yl_loadK (rs := [_, _, _]) (fun _ h => h) hF rfl rfl 1 rfl ag27 sz27 rfl rfl) ?_
                            clear hF; intro a hF
                            refine ha_l 4 hF rfl rfl rfl (wn_none rfl) hSS (yl_load (fun _ h => h) hF rfl rfl 2 rfl ag3 rfl) ?_
                            clear hF; intro a hF
                            refine ha_l 6 hF rfl rfl rfl (wn_none rfl) hSS (yl_load (fun _ h => h) hF rfl rfl 0 rfl ag3 rfl) ?_
                            clear hF; intro a hF
                            refine ha_l 8 hF rfl rfl rfl (wn_none rfl) hSS (yl_load (fun _ h => h) hF rfl rfl 0 rfl ag3 rfl) ?_
                            clear hF; intro a hF
                            refine ha_l 10 hF rfl rfl rfl (wn_none rfl) hSS (yl_load (fun _ h => h) hF rfl rfl 0 rfl ag3 rfl) ?_
                            clear hF; intro a hF
                            have hci := cost_in b e m q.h c.f1 c.f2 c.f3
                            refine ha_l 15 hF rfl rfl rfl (wn_none rfl) hSS (yl_load (fun _ h => h) hF rfl rfl 0 rfl ag3 rfl) ?_
                            clear hF; intro a hF
                            refine ha_one 11 (by kernel_rfl) rfl (wn_none rfl) (wp_call (vs := [_, _, _, _, _]) hF rfl rfl rfl rfl cf28 (cost2_any (b) (e) (m) (q.h) (c.f1) (c.f2) (c.f3) _) ?_)
                            clear hF; rintro _ w ⟨rfl, hS1⟩ a hF
                            replace hS := hS.callB hS1 rfl; clear hS1
                            replace hSS := hS.sub [1, 2, 3] (by decide) rfl (by simp)
                            refine ⟨.inr hSS, ?_⟩
                            refine ha_y 12 hF rfl rfl rfl (wn_none rfl) (.inr hSS) (yl_bin hF rfl rfl rfl rfl (fun _ => run_add (by refine ⟨?_, ?_⟩ <;> omega))) ?_
                            clear hF; intro a hF
                            refine ha_y 16 hF rfl rfl rfl (wn_none rfl) (.inr hSS) (yl_bin hF rfl rfl rfl rfl (fun _ => run_add (by refine ⟨?_, ?_⟩ <;> omega))) ?_
                            clear hF; intro a hF
                            refine ha_y 17 hF rfl rfl rfl (wn_none rfl) (.inr hSS) (yl_fieldAddr hF rfl rfl (fun w => by kernel_rfl : ∀ w, (Instr.fieldAt 39 (.pointer (some ⟨g90, 0, none⟩)) 7).run Try.prog w = .ok (.pointer (some ⟨g90, 7, none⟩)) w)) ?_
                            clear hF; intro a hF
                            refine ha_one 18 (by kernel_rfl) rfl (wn_none rfl) (wp_store (cs' := #[_, _, _, _, _, _, _, _, _, _, _, _]) hF hS rfl rfl rfl rfl 1 rfl sz3 (by simp [Value.cells, Value.oneCell']) (by simp [Value.cells]) rfl ?_)
                            clear hF hS; intro a w hF hS
                            refine ⟨.inl (by kernel_rfl), ?_⟩
                            refine ha_done (by kernel_rfl) ?_ _
                            refine then_n ?_
                            refine c_seq ?_
                            refine c_region ?_
                            refine seq_yl hF (wn_none rfl) rfl rfl (yl_fieldAddr hF rfl rfl (fun w => by kernel_rfl : ∀ w, (Instr.fieldAt 39 (.pointer (some ⟨g90, 0, none⟩)) 7).run Try.prog w = .ok (.pointer (some ⟨g90, 7, none⟩)) w)) ?_
                            clear hF; intro a hF
                            refine seq_yl hF (wn_none rfl) rfl rfl (yl_load (fun _ h => h ▸ hS) hF rfl rfl 1 rfl ag3 rfl) ?_
                            clear hF; intro a hF
                            refine seq_yl hF (wn_none rfl) rfl rfl (yl_fieldAddr hF rfl rfl (fun w => by kernel_rfl : ∀ w, (Instr.fieldAt 25 (.pointer (some ⟨g88, 0, none⟩)) 2).run Try.prog w = .ok (.pointer (some ⟨g88, 2, none⟩)) w)) ?_
                            clear hF; intro a hF
                            refine seq_wp (wn_none rfl) (wp_store (cs' := #[_, _, _, _]) hF hS rfl rfl rfl rfl 3 rfl sz3 (by simp [Value.cells, Value.oneCell']) (by simp [Value.cells]) rfl ?_)
                            clear hF hS; intro a w hF hS
                            refine wpList_nil ?_
                            refine then_n ?_
                            refine c_seq ?_
                            refine c_region ?_
                            refine seq_yl hF (wn_none rfl) rfl rfl (yl_fieldAddr hF rfl rfl (fun w => by kernel_rfl : ∀ w, (Instr.fieldAt 39 (.pointer (some ⟨g90, 0, none⟩)) 1).run Try.prog w = .ok (.pointer (some ⟨g90, 1, none⟩)) w)) ?_
                            clear hF; intro a hF
                            refine seq_yl hF (wn_none rfl) rfl rfl (yl_load (fun _ h => h ▸ hS) hF rfl rfl 1 rfl ag3 rfl) ?_
                            clear hF; intro a hF
                            refine seq_yl hF (wn_none rfl) rfl rfl (yl_bin hF rfl rfl rfl rfl (fun _ => run_neq)) ?_
                            clear hF; intro a hF
                            refine wpList_nil ?_
                            refine then_n ?_
                            refine c_cond hF rfl (fun hc117 => ?_) (fun hc117 => ?_)
                            · first | (replace hc117 := of_decide_eq_true hc117) | (replace hc117 := of_decide_eq_false (bnot_t hc117)) | (subst hc117) | (replace hc117 := bnot_t hc117; subst hc117) | (replace hc117 := bnot_t hc117) | skip
                              refine c_region ?_
                              refine seq_yl hF (wn_none rfl) rfl rfl (yl_fieldAddr hF rfl rfl (fun w => by kernel_rfl : ∀ w, (Instr.fieldAt 39 (.pointer (some ⟨g90, 0, none⟩)) 2).run Try.prog w = .ok (.pointer (some ⟨g90, 2, none⟩)) w)) ?_
                              clear hF; intro a hF
                              refine seq_yl hF (wn_none rfl) rfl rfl (yl_load (fun _ h => h ▸ hS) hF rfl rfl 1 rfl ag3 rfl) ?_
                              clear hF; intro a hF
                              refine seq_yl hF (wn_none rfl) rfl rfl (yl_fieldAddr hF rfl rfl (fun w => by kernel_rfl : ∀ w, (Instr.fieldAt 39 (.pointer (some ⟨g90, 0, none⟩)) 3).run Try.prog w = .ok (.pointer (some ⟨g90, 3, none⟩)) w)) ?_
                              clear hF; intro a hF
                              refine seq_yl hF (wn_none rfl) rfl rfl (yl_load (fun _ h => h ▸ hS) hF rfl rfl 1 rfl ag3 rfl) ?_
                              clear hF; intro a hF
                              refine seq_yl hF (wn_none rfl) rfl rfl (yl_bin hF rfl rfl rfl rfl (fun _ => run_add (by refine ⟨?_, ?_⟩ <;> omega))) ?_
                              clear hF; intro a hF
                              refine seq_yl hF (wn_none rfl) rfl rfl (yl_min2 hF rfl rfl rfl) ?_
                              clear hF; intro a hF
                              replace hF := fr_seti (b' := ((min (c.f2 + c.f3) 128))) hF (by omega)
                              refine seq_yl hF (wn_none rfl) rfl rfl (yl_fieldAddr hF rfl rfl (fun w => by kernel_rfl : ∀ w, (Instr.fieldAt 25 (.pointer (some ⟨g88, 0, none⟩)) 1).run Try.prog w = .ok (.pointer (some ⟨g88, 1, none⟩)) w)) ?_
                              clear hF; intro a hF
                              refine seq_wp (wn_none rfl) (wp_store (cs' := #[_, _, _, _]) hF hS rfl rfl rfl rfl 3 rfl sz3 (by simp [Value.cells, Value.oneCell']) (by simp [Value.cells]) rfl ?_)
                              clear hF hS; intro a w hF hS
                              refine wpList_nil ?_
                              refine then_n ?_
                              refine c_seq ?_
                              refine ha_startS hS [3, 1] 7 (by kernel_rfl) ?_; clear hS; intro w hS
                              have hSS := hS.sub [3, 1] (by decide) rfl (by simp)
                              refine ha_y 0 hF rfl rfl rfl (wn_none rfl) (.inr hSS) (yl_fieldAddr hF rfl rfl (fun w => by kernel_rfl : ∀ w, (Instr.fieldAt 25 (.pointer (some ⟨g88, 0, none⟩)) 3).run Try.prog w = .ok (.pointer (some ⟨g88, 3, none⟩)) w)) ?_
                              clear hF; intro a hF
                              refine ha_l 1 hF rfl rfl rfl (wn_none rfl) hSS (yl_load (fun _ h => h) hF rfl rfl 0 rfl ag23 rfl) ?_
                              clear hF; intro a hF
                              refine ha_l 3 hF rfl rfl rfl (wn_none rfl) hSS (yl_loadK (rs := [_, _, _, _, _, _, _, _, _, _, _, _]) (fun _ h => h) hF rfl rfl 1 rfl ag39 sz39 rfl rfl) ?_
                              clear hF; intro a hF
                              refine ha_all (rs := [2, 4]) (by kernel_rfl) (by simp) ?_
                              refine List.forall_mem_cons.2 ⟨?_, List.forall_mem_cons.2 ⟨?_, (fun _ h => by cases h)⟩⟩
                              · skip
                                refine ha_op 2 rfl (wn_none rfl) (wp_app0 (enc := enc39) hF hS rfl rfl rfl rfl rfl sl23 inf39 rfl (by decide) (hS.rdRo 4 rfl) enc39_one (by decide) (by first | omega | (simp only [List.length_append, List.length_cons, List.length_nil]; omega) | (simp; omega)) ?_)
                                clear hF hS; intro a w v118 hF hS
                                obtain ⟨Av118, cv118, rfl⟩ := hS.form 0 rfl
                                replace hSS := hS.sub [4, 2] (by decide) rfl (by simp)
                                refine ⟨.inr hSS, ?_⟩
                                refine ha_one 4 (by kernel_rfl) rfl (wn_none rfl) (wp_bslice (parts := [(0, .tmp 127)]) (vs := [(0, _)]) (enc := enc39) (e := 39) (size := 12) (cs := #[.int .i64 (c.f0), .int .i64 (c.f1), .int .i64 (c.f2), .int .i64 (c.f3), .string c.f4, .bool c.f5, .int .i64 ((max (now) (q.f))), .int .i64 ((((((max (now) (q.f))) + ((costF (b) (e) (m) (q.h) (c.f1) (c.f2) (c.f3))))) + (c.f11))), .int .i64 (c.f8), .int .i64 (c.f9), .bool c.f10, .int .i64 (c.f11)]) hF hS rfl rfl rfl rfl ([(E39.mk (c.f0) (c.f1) (c.f2) (c.f3) c.f4 c.f5 ((max (now) (q.f))) ((((((max (now) (q.f))) + ((costF (b) (e) (m) (q.h) (c.f1) (c.f2) (c.f3))))) + (c.f11))) (c.f8) (c.f9) c.f10 (c.f11))] : List E39) (fun w => by kernel_rfl) rfl rfl rfl (by decide) ?_)
                                clear hF hS; intro a w v119 hF hS
                                obtain ⟨Av119, cv119, rfl⟩ := hS.form 0 rfl
                                replace hSS := hS.sub [5, 3] (by decide) rfl (by simp)
                                refine ⟨.inr hSS, ?_⟩
                                refine ha_one 5 (by kernel_rfl) rfl (wn_none rfl) (wp_app (enc := enc39) hF hS rfl rfl rfl rfl rfl 1 rfl sl23 inf39 rfl (by decide) (hS.rdRow 0 rfl) enc39_one (by decide) (by first | omega | (simp only [List.length_append, List.length_cons, List.length_nil]; omega) | (simp; omega)) ?_)
                                clear hF hS; intro a w v120 hF hS
                                obtain ⟨Av120, cv120, rfl⟩ := hS.form 1 rfl
                                replace hSS := hS.sub [5, 3] (by decide) rfl (by simp)
                                refine ⟨.inr hSS, ?_⟩
                                refine ha_y 6 hF rfl rfl rfl (wn_none rfl) (.inr hSS) (yl_fieldAddr hF rfl rfl (fun w => by kernel_rfl : ∀ w, (Instr.fieldAt 25 (.pointer (some ⟨g88, 0, none⟩)) 3).run Try.prog w = .ok (.pointer (some ⟨g88, 3, none⟩)) w)) ?_
                                clear hF; intro a hF
                                refine ha_one 7 (by kernel_rfl) rfl (wn_none rfl) (wp_store (cs' := #[_, _, _, _]) hF hS rfl rfl rfl rfl 5 rfl sz23 (by simp [Value.cells, Value.oneCell']) (by simp [Value.cells]) rfl ?_)
                                clear hF hS; intro a w hF hS
                                refine ⟨.inl (by kernel_rfl), ?_⟩
                                refine ha_done (by kernel_rfl) ?_ _
                                refine then_n ?_
                                refine c_seq ?_
                                refine c_region ?_
                                refine seq_yl hF (wn_none rfl) rfl rfl (yl_loadK (rs := [_, _, _, _]) (fun _ h => h ▸ hS) hF rfl rfl 5 rfl ag25 sz25 rfl rfl) ?_
                                clear hF; intro a hF
                                refine seq_wp (wn_none rfl) (wp_store (cs' := #[_, _, _, _]) hF hS rfl rfl rfl rfl 2 rfl sz25 (by simp [Value.cells, Value.oneCell']) (by simp [Value.cells]) rfl ?_)
                                clear hF hS; intro a w hF hS
                                refine seq_yl hF (wn_none rfl) rfl rfl (yl_assign hF rfl rfl) ?_
                                clear hF; intro a hF
                                refine wpList_nil ?_
                                refine then_n ?_
                                refine wp_ret ?_
                                refine ret_ct hF rfl (resC hS rfl 2 rfl ag25 sz25) rfl ?_
                                exact ⟨_, rfl, _, _, _, _, _, _, rfl, by first | exact push_hang hok (by first | assumption | exact (cont_idx _ _).symm.trans (decide_eq_false (by assumption))) (by omega) (by omega) | exact push_fl hok (by first | assumption | exact (cont_idx _ _).symm.trans (decide_eq_false (by assumption))) (by omega) (by omega) (by omega) | exact push_rw hok (by first | assumption | exact (cont_idx _ _).symm.trans (decide_eq_false (by assumption))) (by omega) (by omega) (by omega), (hS.sub [1] (by decide) (by first | rfl | simp) (by simp))⟩
                              · skip
                                refine ha_op 4 rfl (wn_none rfl) (wp_bslice (parts := [(0, .tmp 127)]) (vs := [(0, _)]) (enc := enc39) (e := 39) (size := 12) (cs := #[.int .i64 (c.f0), .int .i64 (c.f1), .int .i64 (c.f2), .int .i64 (c.f3), .string c.f4, .bool c.f5, .int .i64 ((max (now) (q.f))), .int .i64 ((((((max (now) (q.f))) + ((costF (b) (e) (m) (q.h) (c.f1) (c.f2) (c.f3))))) + (c.f11))), .int .i64 (c.f8), .int .i64 (c.f9), .bool c.f10, .int .i64 (c.f11)]) hF hS rfl rfl rfl rfl ([(E39.mk (c.f0) (c.f1) (c.f2) (c.f3) c.f4 c.f5 ((max (now) (q.f))) ((((((max (now) (q.f))) + ((costF (b) (e) (m) (q.h) (c.f1) (c.f2) (c.f3))))) + (c.f11))) (c.f8) (c.f9) c.f10 (c.f11))] : List E39) (fun w => by kernel_rfl) rfl rfl rfl (by decide) ?_)
                                clear hF hS; intro a w v121 hF hS
                                obtain ⟨Av121, cv121, rfl⟩ := hS.form 0 rfl
                                replace hSS := hS.sub [4, 2] (by decide) rfl (by simp)
                                refine ⟨.inr hSS, ?_⟩
                                refine ha_one 2 (by kernel_rfl) rfl (wn_none rfl) (wp_app0 (enc := enc39) hF hS rfl rfl rfl rfl rfl sl23 inf39 rfl (by decide) (hS.rdRo 5 rfl) enc39_one (by decide) (by first | omega | (simp only [List.length_append, List.length_cons, List.length_nil]; omega) | (simp; omega)) ?_)
                                clear hF hS; intro a w v122 hF hS
                                obtain ⟨Av122, cv122, rfl⟩ := hS.form 0 rfl
                                replace hSS := hS.sub [5, 3] (by decide) rfl (by simp)
                                refine ⟨.inr hSS, ?_⟩
                                refine ha_one 5 (by kernel_rfl) rfl (wn_none rfl) (wp_app (enc := enc39) hF hS rfl rfl rfl rfl rfl 0 rfl sl23 inf39 rfl (by decide) (hS.rdRow 1 rfl) enc39_one (by decide) (by first | omega | (simp only [List.length_append, List.length_cons, List.length_nil]; omega) | (simp; omega)) ?_)
                                clear hF hS; intro a w v123 hF hS
                                obtain ⟨Av123, cv123, rfl⟩ := hS.form 0 rfl
                                replace hSS := hS.sub [5, 3] (by decide) rfl (by simp)
                                refine ⟨.inr hSS, ?_⟩
                                refine ha_y 6 hF rfl rfl rfl (wn_none rfl) (.inr hSS) (yl_fieldAddr hF rfl rfl (fun w => by kernel_rfl : ∀ w, (Instr.fieldAt 25 (.pointer (some ⟨g88, 0, none⟩)) 3).run Try.prog w = .ok (.pointer (some ⟨g88, 3, none⟩)) w)) ?_
                                clear hF; intro a hF
                                refine ha_one 7 (by kernel_rfl) rfl (wn_none rfl) (wp_store (cs' := #[_, _, _, _]) hF hS rfl rfl rfl rfl 5 rfl sz23 (by simp [Value.cells, Value.oneCell']) (by simp [Value.cells]) rfl ?_)
                                clear hF hS; intro a w hF hS
                                refine ⟨.inl (by kernel_rfl), ?_⟩
                                refine ha_done (by kernel_rfl) ?_ _
                                refine then_n ?_
                                refine c_seq ?_
                                refine c_region ?_
                                refine seq_yl hF (wn_none rfl) rfl rfl (yl_loadK (rs := [_, _, _, _]) (fun _ h => h ▸ hS) hF rfl rfl 5 rfl ag25 sz25 rfl rfl) ?_
                                clear hF; intro a hF
                                refine seq_wp (wn_none rfl) (wp_store (cs' := #[_, _, _, _]) hF hS rfl rfl rfl rfl 2 rfl sz25 (by simp [Value.cells, Value.oneCell']) (by simp [Value.cells]) rfl ?_)
                                clear hF hS; intro a w hF hS
                                refine seq_yl hF (wn_none rfl) rfl rfl (yl_assign hF rfl rfl) ?_
                                clear hF; intro a hF
                                refine wpList_nil ?_
                                refine then_n ?_
                                refine wp_ret ?_
                                refine ret_ct hF rfl (resC hS rfl 2 rfl ag25 sz25) rfl ?_
                                exact ⟨_, rfl, _, _, _, _, _, _, rfl, by first | exact push_hang hok (by first | assumption | exact (cont_idx _ _).symm.trans (decide_eq_false (by assumption))) (by omega) (by omega) | exact push_fl hok (by first | assumption | exact (cont_idx _ _).symm.trans (decide_eq_false (by assumption))) (by omega) (by omega) (by omega) | exact push_rw hok (by first | assumption | exact (cont_idx _ _).symm.trans (decide_eq_false (by assumption))) (by omega) (by omega) (by omega), (hS.sub [0] (by decide) (by first | rfl | simp) (by simp))⟩
                            · first | (replace hc117 := of_decide_eq_false hc117) | (replace hc117 := of_decide_eq_true (bnot_f hc117)) | (subst hc117) | (replace hc117 := bnot_f hc117; subst hc117) | (replace hc117 := bnot_f hc117) | skip
                              refine wp_skip ?_
                              refine then_n ?_
                              refine c_seq ?_
                              refine ha_startS hS [3, 1] 7 (by kernel_rfl) ?_; clear hS; intro w hS
                              have hSS := hS.sub [3, 1] (by decide) rfl (by simp)
                              refine ha_y 0 hF rfl rfl rfl (wn_none rfl) (.inr hSS) (yl_fieldAddr hF rfl rfl (fun w => by kernel_rfl : ∀ w, (Instr.fieldAt 25 (.pointer (some ⟨g88, 0, none⟩)) 3).run Try.prog w = .ok (.pointer (some ⟨g88, 3, none⟩)) w)) ?_
                              clear hF; intro a hF
                              refine ha_l 1 hF rfl rfl rfl (wn_none rfl) hSS (yl_load (fun _ h => h) hF rfl rfl 0 rfl ag23 rfl) ?_
                              clear hF; intro a hF
                              refine ha_l 3 hF rfl rfl rfl (wn_none rfl) hSS (yl_loadK (rs := [_, _, _, _, _, _, _, _, _, _, _, _]) (fun _ h => h) hF rfl rfl 1 rfl ag39 sz39 rfl rfl) ?_
                              clear hF; intro a hF
                              refine ha_all (rs := [2, 4]) (by kernel_rfl) (by simp) ?_
                              refine List.forall_mem_cons.2 ⟨?_, List.forall_mem_cons.2 ⟨?_, (fun _ h => by cases h)⟩⟩
                              · skip
                                refine ha_op 2 rfl (wn_none rfl) (wp_app0 (enc := enc39) hF hS rfl rfl rfl rfl rfl sl23 inf39 rfl (by decide) (hS.rdRo 4 rfl) enc39_one (by decide) (by first | omega | (simp only [List.length_append, List.length_cons, List.length_nil]; omega) | (simp; omega)) ?_)
                                clear hF hS; intro a w v124 hF hS
                                obtain ⟨Av124, cv124, rfl⟩ := hS.form 0 rfl
                                replace hSS := hS.sub [4, 2] (by decide) rfl (by simp)
                                refine ⟨.inr hSS, ?_⟩
                                refine ha_one 4 (by kernel_rfl) rfl (wn_none rfl) (wp_bslice (parts := [(0, .tmp 127)]) (vs := [(0, _)]) (enc := enc39) (e := 39) (size := 12) (cs := #[.int .i64 (c.f0), .int .i64 (c.f1), .int .i64 (c.f2), .int .i64 (c.f3), .string c.f4, .bool c.f5, .int .i64 ((max (now) (q.f))), .int .i64 ((((((max (now) (q.f))) + ((costF (b) (e) (m) (q.h) (c.f1) (c.f2) (c.f3))))) + (c.f11))), .int .i64 (c.f8), .int .i64 (c.f9), .bool c.f10, .int .i64 (c.f11)]) hF hS rfl rfl rfl rfl ([(E39.mk (c.f0) (c.f1) (c.f2) (c.f3) c.f4 c.f5 ((max (now) (q.f))) ((((((max (now) (q.f))) + ((costF (b) (e) (m) (q.h) (c.f1) (c.f2) (c.f3))))) + (c.f11))) (c.f8) (c.f9) c.f10 (c.f11))] : List E39) (fun w => by kernel_rfl) rfl rfl rfl (by decide) ?_)
                                clear hF hS; intro a w v125 hF hS
                                obtain ⟨Av125, cv125, rfl⟩ := hS.form 0 rfl
                                replace hSS := hS.sub [5, 3] (by decide) rfl (by simp)
                                refine ⟨.inr hSS, ?_⟩
                                refine ha_one 5 (by kernel_rfl) rfl (wn_none rfl) (wp_app (enc := enc39) hF hS rfl rfl rfl rfl rfl 1 rfl sl23 inf39 rfl (by decide) (hS.rdRow 0 rfl) enc39_one (by decide) (by first | omega | (simp only [List.length_append, List.length_cons, List.length_nil]; omega) | (simp; omega)) ?_)
                                clear hF hS; intro a w v126 hF hS
                                obtain ⟨Av126, cv126, rfl⟩ := hS.form 1 rfl
                                replace hSS := hS.sub [5, 3] (by decide) rfl (by simp)
                                refine ⟨.inr hSS, ?_⟩
                                refine ha_y 6 hF rfl rfl rfl (wn_none rfl) (.inr hSS) (yl_fieldAddr hF rfl rfl (fun w => by kernel_rfl : ∀ w, (Instr.fieldAt 25 (.pointer (some ⟨g88, 0, none⟩)) 3).run Try.prog w = .ok (.pointer (some ⟨g88, 3, none⟩)) w)) ?_
                                clear hF; intro a hF
                                refine ha_one 7 (by kernel_rfl) rfl (wn_none rfl) (wp_store (cs' := #[_, _, _, _]) hF hS rfl rfl rfl rfl 5 rfl sz23 (by simp [Value.cells, Value.oneCell']) (by simp [Value.cells]) rfl ?_)
                                clear hF hS; intro a w hF hS
                                refine ⟨.inl (by kernel_rfl), ?_⟩
                                refine ha_done (by kernel_rfl) ?_ _
                                refine then_n ?_
                                refine c_seq ?_
                                refine c_region ?_
                                refine seq_yl hF (wn_none rfl) rfl rfl (yl_loadK (rs := [_, _, _, _]) (fun _ h => h ▸ hS) hF rfl rfl 5 rfl ag25 sz25 rfl rfl) ?_
                                clear hF; intro a hF
                                refine seq_wp (wn_none rfl) (wp_store (cs' := #[_, _, _, _]) hF hS rfl rfl rfl rfl 2 rfl sz25 (by simp [Value.cells, Value.oneCell']) (by simp [Value.cells]) rfl ?_)
                                clear hF hS; intro a w hF hS
                                refine seq_yl hF (wn_none rfl) rfl rfl (yl_assign hF rfl rfl) ?_
                                clear hF; intro a hF
                                refine wpList_nil ?_
                                refine then_n ?_
                                refine wp_ret ?_
                                refine ret_ct hF rfl (resC hS rfl 2 rfl ag25 sz25) rfl ?_
                                exact ⟨_, rfl, _, _, _, _, _, _, rfl, by first | exact push_hang hok (by first | assumption | exact (cont_idx _ _).symm.trans (decide_eq_false (by assumption))) (by omega) (by omega) | exact push_fl hok (by first | assumption | exact (cont_idx _ _).symm.trans (decide_eq_false (by assumption))) (by omega) (by omega) (by omega) | exact push_rw hok (by first | assumption | exact (cont_idx _ _).symm.trans (decide_eq_false (by assumption))) (by omega) (by omega) (by omega), (hS.sub [1] (by decide) (by first | rfl | simp) (by simp))⟩
                              · skip
                                refine ha_op 4 rfl (wn_none rfl) (wp_bslice (parts := [(0, .tmp 127)]) (vs := [(0, _)]) (enc := enc39) (e := 39) (size := 12) (cs := #[.int .i64 (c.f0), .int .i64 (c.f1), .int .i64 (c.f2), .int .i64 (c.f3), .string c.f4, .bool c.f5, .int .i64 ((max (now) (q.f))), .int .i64 ((((((max (now) (q.f))) + ((costF (b) (e) (m) (q.h) (c.f1) (c.f2) (c.f3))))) + (c.f11))), .int .i64 (c.f8), .int .i64 (c.f9), .bool c.f10, .int .i64 (c.f11)]) hF hS rfl rfl rfl rfl ([(E39.mk (c.f0) (c.f1) (c.f2) (c.f3) c.f4 c.f5 ((max (now) (q.f))) ((((((max (now) (q.f))) + ((costF (b) (e) (m) (q.h) (c.f1) (c.f2) (c.f3))))) + (c.f11))) (c.f8) (c.f9) c.f10 (c.f11))] : List E39) (fun w => by kernel_rfl) rfl rfl rfl (by decide) ?_)
                                clear hF hS; intro a w v127 hF hS
                                obtain ⟨Av127, cv127, rfl⟩ := hS.form 0 rfl
                                replace hSS := hS.sub [4, 2] (by decide) rfl (by simp)
                                refine ⟨.inr hSS, ?_⟩
                                refine ha_one 2 (by kernel_rfl) rfl (wn_none rfl) (wp_app0 (enc := enc39) hF hS rfl rfl rfl rfl rfl sl23 inf39 rfl (by decide) (hS.rdRo 5 rfl) enc39_one (by decide) (by first | omega | (simp only [List.length_append, List.length_cons, List.length_nil]; omega) | (simp; omega)) ?_)
                                clear hF hS; intro a w v128 hF hS
                                obtain ⟨Av128, cv128, rfl⟩ := hS.form 0 rfl
                                replace hSS := hS.sub [5, 3] (by decide) rfl (by simp)
                                refine ⟨.inr hSS, ?_⟩
                                refine ha_one 5 (by kernel_rfl) rfl (wn_none rfl) (wp_app (enc := enc39) hF hS rfl rfl rfl rfl rfl 0 rfl sl23 inf39 rfl (by decide) (hS.rdRow 1 rfl) enc39_one (by decide) (by first | omega | (simp only [List.length_append, List.length_cons, List.length_nil]; omega) | (simp; omega)) ?_)
                                clear hF hS; intro a w v129 hF hS
                                obtain ⟨Av129, cv129, rfl⟩ := hS.form 0 rfl
                                replace hSS := hS.sub [5, 3] (by decide) rfl (by simp)
                                refine ⟨.inr hSS, ?_⟩
                                refine ha_y 6 hF rfl rfl rfl (wn_none rfl) (.inr hSS) (yl_fieldAddr hF rfl rfl (fun w => by kernel_rfl : ∀ w, (Instr.fieldAt 25 (.pointer (some ⟨g88, 0, none⟩)) 3).run Try.prog w = .ok (.pointer (some ⟨g88, 3, none⟩)) w)) ?_
                                clear hF; intro a hF
                                refine ha_one 7 (by kernel_rfl) rfl (wn_none rfl) (wp_store (cs' := #[_, _, _, _]) hF hS rfl rfl rfl rfl 5 rfl sz23 (by simp [Value.cells, Value.oneCell']) (by simp [Value.cells]) rfl ?_)
                                clear hF hS; intro a w hF hS
                                refine ⟨.inl (by kernel_rfl), ?_⟩
                                refine ha_done (by kernel_rfl) ?_ _
                                refine then_n ?_
                                refine c_seq ?_
                                refine c_region ?_
                                refine seq_yl hF (wn_none rfl) rfl rfl (yl_loadK (rs := [_, _, _, _]) (fun _ h => h ▸ hS) hF rfl rfl 5 rfl ag25 sz25 rfl rfl) ?_
                                clear hF; intro a hF
                                refine seq_wp (wn_none rfl) (wp_store (cs' := #[_, _, _, _]) hF hS rfl rfl rfl rfl 2 rfl sz25 (by simp [Value.cells, Value.oneCell']) (by simp [Value.cells]) rfl ?_)
                                clear hF hS; intro a w hF hS
                                refine seq_yl hF (wn_none rfl) rfl rfl (yl_assign hF rfl rfl) ?_
                                clear hF; intro a hF
                                refine wpList_nil ?_
                                refine then_n ?_
                                refine wp_ret ?_
                                refine ret_ct hF rfl (resC hS rfl 2 rfl ag25 sz25) rfl ?_
                                exact ⟨_, rfl, _, _, _, _, _, _, rfl, by first | exact push_hang hok (by first | assumption | exact (cont_idx _ _).symm.trans (decide_eq_false (by assumption))) (by omega) (by omega) | exact push_fl hok (by first | assumption | exact (cont_idx _ _).symm.trans (decide_eq_false (by assumption))) (by omega) (by omega) (by omega) | exact push_rw hok (by first | assumption | exact (cont_idx _ _).symm.trans (decide_eq_false (by assumption))) (by omega) (by omega) (by omega), (hS.sub [0] (by decide) (by first | rfl | simp) (by simp))⟩
                          · first | (replace hc116 := of_decide_eq_false hc116) | (replace hc116 := of_decide_eq_true (bnot_f hc116)) | (subst hc116) | (replace hc116 := bnot_f hc116; subst hc116) | (replace hc116 := bnot_f hc116) | skip
                            refine wp_skip ?_
                            refine then_n ?_
                            refine c_seq ?_
                            refine ha_startS hS [3, 1] 7 (by kernel_rfl) ?_; clear hS; intro w hS
                            have hSS := hS.sub [3, 1] (by decide) rfl (by simp)
                            refine ha_y 0 hF rfl rfl rfl (wn_none rfl) (.inr hSS) (yl_fieldAddr hF rfl rfl (fun w => by kernel_rfl : ∀ w, (Instr.fieldAt 25 (.pointer (some ⟨g88, 0, none⟩)) 3).run Try.prog w = .ok (.pointer (some ⟨g88, 3, none⟩)) w)) ?_
                            clear hF; intro a hF
                            refine ha_l 1 hF rfl rfl rfl (wn_none rfl) hSS (yl_load (fun _ h => h) hF rfl rfl 0 rfl ag23 rfl) ?_
                            clear hF; intro a hF
                            refine ha_l 3 hF rfl rfl rfl (wn_none rfl) hSS (yl_loadK (rs := [_, _, _, _, _, _, _, _, _, _, _, _]) (fun _ h => h) hF rfl rfl 1 rfl ag39 sz39 rfl rfl) ?_
                            clear hF; intro a hF
                            refine ha_all (rs := [2, 4]) (by kernel_rfl) (by simp) ?_
                            refine List.forall_mem_cons.2 ⟨?_, List.forall_mem_cons.2 ⟨?_, (fun _ h => by cases h)⟩⟩
                            · skip
                              refine ha_op 2 rfl (wn_none rfl) (wp_app0 (enc := enc39) hF hS rfl rfl rfl rfl rfl sl23 inf39 rfl (by decide) (hS.rdRo 4 rfl) enc39_one (by decide) (by first | omega | (simp only [List.length_append, List.length_cons, List.length_nil]; omega) | (simp; omega)) ?_)
                              clear hF hS; intro a w v130 hF hS
                              obtain ⟨Av130, cv130, rfl⟩ := hS.form 0 rfl
                              replace hSS := hS.sub [4, 2] (by decide) rfl (by simp)
                              refine ⟨.inr hSS, ?_⟩
                              refine ha_one 4 (by kernel_rfl) rfl (wn_none rfl) (wp_bslice (parts := [(0, .tmp 127)]) (vs := [(0, _)]) (enc := enc39) (e := 39) (size := 12) (cs := #[.int .i64 (c.f0), .int .i64 (c.f1), .int .i64 (c.f2), .int .i64 (c.f3), .string c.f4, .bool c.f5, .int .i64 ((max (now) (q.f))), .int .i64 (-1 : Int), .int .i64 (c.f8), .int .i64 (c.f9), .bool c.f10, .int .i64 (c.f11)]) hF hS rfl rfl rfl rfl ([(E39.mk (c.f0) (c.f1) (c.f2) (c.f3) c.f4 c.f5 ((max (now) (q.f))) (-1 : Int) (c.f8) (c.f9) c.f10 (c.f11))] : List E39) (fun w => by kernel_rfl) rfl rfl rfl (by decide) ?_)
                              clear hF hS; intro a w v131 hF hS
                              obtain ⟨Av131, cv131, rfl⟩ := hS.form 0 rfl
                              replace hSS := hS.sub [5, 3] (by decide) rfl (by simp)
                              refine ⟨.inr hSS, ?_⟩
                              refine ha_one 5 (by kernel_rfl) rfl (wn_none rfl) (wp_app (enc := enc39) hF hS rfl rfl rfl rfl rfl 1 rfl sl23 inf39 rfl (by decide) (hS.rdRow 0 rfl) enc39_one (by decide) (by first | omega | (simp only [List.length_append, List.length_cons, List.length_nil]; omega) | (simp; omega)) ?_)
                              clear hF hS; intro a w v132 hF hS
                              obtain ⟨Av132, cv132, rfl⟩ := hS.form 1 rfl
                              replace hSS := hS.sub [5, 3] (by decide) rfl (by simp)
                              refine ⟨.inr hSS, ?_⟩
                              refine ha_y 6 hF rfl rfl rfl (wn_none rfl) (.inr hSS) (yl_fieldAddr hF rfl rfl (fun w => by kernel_rfl : ∀ w, (Instr.fieldAt 25 (.pointer (some ⟨g88, 0, none⟩)) 3).run Try.prog w = .ok (.pointer (some ⟨g88, 3, none⟩)) w)) ?_
                              clear hF; intro a hF
                              refine ha_one 7 (by kernel_rfl) rfl (wn_none rfl) (wp_store (cs' := #[_, _, _, _]) hF hS rfl rfl rfl rfl 5 rfl sz23 (by simp [Value.cells, Value.oneCell']) (by simp [Value.cells]) rfl ?_)
                              clear hF hS; intro a w hF hS
                              refine ⟨.inl (by kernel_rfl), ?_⟩
                              refine ha_done (by kernel_rfl) ?_ _
                              refine then_n ?_
                              refine c_seq ?_
                              refine c_region ?_
                              refine seq_yl hF (wn_none rfl) rfl rfl (yl_loadK (rs := [_, _, _, _]) (fun _ h => h ▸ hS) hF rfl rfl 5 rfl ag25 sz25 rfl rfl) ?_
                              clear hF; intro a hF
                              refine seq_wp (wn_none rfl) (wp_store (cs' := #[_, _, _, _]) hF hS rfl rfl rfl rfl 2 rfl sz25 (by simp [Value.cells, Value.oneCell']) (by simp [Value.cells]) rfl ?_)
                              clear hF hS; intro a w hF hS
                              refine seq_yl hF (wn_none rfl) rfl rfl (yl_assign hF rfl rfl) ?_
                              clear hF; intro a hF
                              refine wpList_nil ?_
                              refine then_n ?_
                              refine wp_ret ?_
                              refine ret_ct hF rfl (resC hS rfl 2 rfl ag25 sz25) rfl ?_
                              exact ⟨_, rfl, _, _, _, _, _, _, rfl, by first | exact push_hang hok (by first | assumption | exact (cont_idx _ _).symm.trans (decide_eq_false (by assumption))) (by omega) (by omega) | exact push_fl hok (by first | assumption | exact (cont_idx _ _).symm.trans (decide_eq_false (by assumption))) (by omega) (by omega) (by omega) | exact push_rw hok (by first | assumption | exact (cont_idx _ _).symm.trans (decide_eq_false (by assumption))) (by omega) (by omega) (by omega), (hS.sub [1] (by decide) (by first | rfl | simp) (by simp))⟩
                            · skip
                              refine ha_op 4 rfl (wn_none rfl) (wp_bslice (parts := [(0, .tmp 127)]) (vs := [(0, _)]) (enc := enc39) (e := 39) (size := 12) (cs := #[.int .i64 (c.f0), .int .i64 (c.f1), .int .i64 (c.f2), .int .i64 (c.f3), .string c.f4, .bool c.f5, .int .i64 ((max (now) (q.f))), .int .i64 (-1 : Int), .int .i64 (c.f8), .int .i64 (c.f9), .bool c.f10, .int .i64 (c.f11)]) hF hS rfl rfl rfl rfl ([(E39.mk (c.f0) (c.f1) (c.f2) (c.f3) c.f4 c.f5 ((max (now) (q.f))) (-1 : Int) (c.f8) (c.f9) c.f10 (c.f11))] : List E39) (fun w => by kernel_rfl) rfl rfl rfl (by decide) ?_)
                              clear hF hS; intro a w v133 hF hS
                              obtain ⟨Av133, cv133, rfl⟩ := hS.form 0 rfl
                              replace hSS := hS.sub [4, 2] (by decide) rfl (by simp)
                              refine ⟨.inr hSS, ?_⟩
                              refine ha_one 2 (by kernel_rfl) rfl (wn_none rfl) (wp_app0 (enc := enc39) hF hS rfl rfl rfl rfl rfl sl23 inf39 rfl (by decide) (hS.rdRo 5 rfl) enc39_one (by decide) (by first | omega | (simp only [List.length_append, List.length_cons, List.length_nil]; omega) | (simp; omega)) ?_)
                              clear hF hS; intro a w v134 hF hS
                              obtain ⟨Av134, cv134, rfl⟩ := hS.form 0 rfl
                              replace hSS := hS.sub [5, 3] (by decide) rfl (by simp)
                              refine ⟨.inr hSS, ?_⟩
                              refine ha_one 5 (by kernel_rfl) rfl (wn_none rfl) (wp_app (enc := enc39) hF hS rfl rfl rfl rfl rfl 0 rfl sl23 inf39 rfl (by decide) (hS.rdRow 1 rfl) enc39_one (by decide) (by first | omega | (simp only [List.length_append, List.length_cons, List.length_nil]; omega) | (simp; omega)) ?_)
                              clear hF hS; intro a w v135 hF hS
                              obtain ⟨Av135, cv135, rfl⟩ := hS.form 0 rfl
                              replace hSS := hS.sub [5, 3] (by decide) rfl (by simp)
                              refine ⟨.inr hSS, ?_⟩
                              refine ha_y 6 hF rfl rfl rfl (wn_none rfl) (.inr hSS) (yl_fieldAddr hF rfl rfl (fun w => by kernel_rfl : ∀ w, (Instr.fieldAt 25 (.pointer (some ⟨g88, 0, none⟩)) 3).run Try.prog w = .ok (.pointer (some ⟨g88, 3, none⟩)) w)) ?_
                              clear hF; intro a hF
                              refine ha_one 7 (by kernel_rfl) rfl (wn_none rfl) (wp_store (cs' := #[_, _, _, _]) hF hS rfl rfl rfl rfl 5 rfl sz23 (by simp [Value.cells, Value.oneCell']) (by simp [Value.cells]) rfl ?_)
                              clear hF hS; intro a w hF hS
                              refine ⟨.inl (by kernel_rfl), ?_⟩
                              refine ha_done (by kernel_rfl) ?_ _
                              refine then_n ?_
                              refine c_seq ?_
                              refine c_region ?_
                              refine seq_yl hF (wn_none rfl) rfl rfl (yl_loadK (rs := [_, _, _, _]) (fun _ h => h ▸ hS) hF rfl rfl 5 rfl ag25 sz25 rfl rfl) ?_
                              clear hF; intro a hF
                              refine seq_wp (wn_none rfl) (wp_store (cs' := #[_, _, _, _]) hF hS rfl rfl rfl rfl 2 rfl sz25 (by simp [Value.cells, Value.oneCell']) (by simp [Value.cells]) rfl ?_)
                              clear hF hS; intro a w hF hS
                              refine seq_yl hF (wn_none rfl) rfl rfl (yl_assign hF rfl rfl) ?_
                              clear hF; intro a hF
                              refine wpList_nil ?_
                              refine then_n ?_
                              refine wp_ret ?_
                              refine ret_ct hF rfl (resC hS rfl 2 rfl ag25 sz25) rfl ?_
                              exact ⟨_, rfl, _, _, _, _, _, _, rfl, by first | exact push_hang hok (by first | assumption | exact (cont_idx _ _).symm.trans (decide_eq_false (by assumption))) (by omega) (by omega) | exact push_fl hok (by first | assumption | exact (cont_idx _ _).symm.trans (decide_eq_false (by assumption))) (by omega) (by omega) (by omega) | exact push_rw hok (by first | assumption | exact (cont_idx _ _).symm.trans (decide_eq_false (by assumption))) (by omega) (by omega) (by omega), (hS.sub [0] (by decide) (by first | rfl | simp) (by simp))⟩

end Go.Proofs.Ytjjjmpkmjicpbaa

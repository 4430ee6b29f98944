/- walks, printed by wip/gen -/
import Derived.Test.YtjjjmpkmjicpbaaW9
import Derived.Test.YtjjjmpkmjicpbaaW5
import Derived.Test.YtjjjmpkmjicpbaaW6
import Derived.Test.YtjjjmpkmjicpbaaW7
import Derived.Test.YtjjjmpkmjicpbaaP3
namespace Go.Proofs.Ytjjjmpkmjicpbaa
open Go.RowKit
set_option linter.unusedVariables false
set_option linter.unusedSimpArgs false

set_option maxHeartbeats 4000000 in
theorem exact_any (qd qh qf : Int) (qL : List E39) (b e m now : Int) (c : E39) (n0 n1 n2 n3 : Int) (v : Value) (w0 : World) (hv : Rd w0 12 v (qL).length (cells enc39 (qL))) (hL : qL.length ≤ maxLen) :
    Fn Try.prog 9 #[.agg #[.int .i64 qd, .int .i64 qh, .int .i64 qf, v], .agg #[.int .i64 b, .int .i64 e, .int .i64 m], .int .i64 now, .agg #[.int .i64 c.f0, .int .i64 c.f1, .int .i64 c.f2, .int .i64 c.f3, .string c.f4, .bool c.f5, .int .i64 c.f6, .int .i64 c.f7, .int .i64 c.f8, .int .i64 c.f9, .bool c.f10, .int .i64 c.f11], .int .i64 n0, .int .i64 n1, .int .i64 n2, .int .i64 n3] w0 (fun v w' => v = .bool true ∧ Sat w0 w' []) := by
  simp only [maxLen] at hL
  obtain ⟨Av, cv, rfl⟩ := Rd.form hv
  refine c_enter (N := 185) (l := [_, _, _, _, _, _, _, _]) Try.func9 rfl rfl (fun a w hF hS => ?_)
  replace hS := hS.addRo hv
  refine c_seq ?_
  refine c_region ?_
  refine seq_wp (wn_none rfl) (wp_box (cs := #[_, _, _, _]) hF hS rfl rfl rfl rfl rfl ?_)
  clear hF hS; intro a w g966 hF hS
  refine seq_wp (wn_none rfl) (wp_box (cs := #[_, _, _]) hF hS rfl rfl rfl rfl rfl ?_)
  clear hF hS; intro a w g967 hF hS
  refine seq_wp (wn_none rfl) (wp_box (cs := #[_, _, _, _, _, _, _, _, _, _, _, _]) hF hS rfl rfl rfl rfl rfl ?_)
  clear hF hS; intro a w g968 hF hS
  refine seq_yl hF (wn_none rfl) rfl rfl (yl_assign hF rfl rfl) ?_
  clear hF; intro a hF
  refine wpList_nil ?_
  refine then_n ?_
  refine c_seq ?_
  refine c_seq ?_
  refine c_region ?_
  refine seq_yl hF (wn_none rfl) rfl rfl (yl_loadK (rs := [_, _, _, _]) (fun _ h => h ▸ hS) hF rfl rfl 2 rfl ag25 sz25 rfl rfl) ?_
  clear hF; intro a hF
  refine seq_wp (wn_none rfl) (wp_call (vs := [_]) hF rfl rfl rfl rfl cf25 (few_any (qd) (qh) (qf) qL _ _ (hS.rdRo 3 rfl) (by first | omega | (simp; done) | (simp; omega))) ?_)
  clear hF; rintro _ w ⟨rfl, hS1⟩ a hF
  replace hS := hS.callB hS1 rfl; clear hS1
  refine seq_yl hF (wn_none rfl) rfl rfl (yl_un hF rfl rfl (fun _ => run_not)) ?_
  clear hF; intro a hF
  refine seq_yl hF (wn_none rfl) rfl rfl (yl_move hF rfl rfl) ?_
  clear hF; intro a hF
  refine fr_split hF (fun hc969 hF => ?_) (fun hc969 hF => ?_)
  · first | (replace hc969 := of_decide_eq_true hc969) | (replace hc969 := of_decide_eq_false (bnot_t hc969)) | (subst hc969) | (replace hc969 := bnot_t hc969; subst hc969) | (replace hc969 := bnot_t hc969) | skip
    refine seq_skip hF (wn_f hF rfl rfl rfl rfl) rfl rfl ?_
    clear hF; intro a hF
    refine seq_skip hF (wn_f hF rfl rfl rfl rfl) rfl rfl ?_
    clear hF; intro a hF
    refine seq_skip hF (wn_f hF rfl rfl rfl rfl) rfl rfl ?_
    clear hF; intro a hF
    refine seq_skip hF (wn_f hF rfl rfl rfl rfl) rfl rfl ?_
    clear hF; intro a hF
    refine seq_yl hF (wn_none rfl) rfl rfl (yl_pick (u := _) (v := undef) hF rfl rfl (fun _ => rfl) (fun h => by cases h)) ?_
    clear hF; intro a hF
    refine wpList_nil ?_
    refine then_n ?_
    refine c_cond_t hF rfl ?_
    refine c_seq ?_
    refine c_region ?_
    refine seq_yl hF (wn_none rfl) rfl rfl (yl_assign hF rfl rfl) ?_
    clear hF; intro a hF
    refine wpList_nil ?_
    refine then_n ?_
    refine wp_ret ?_
    refine then_r ?_
    refine ret_t hF rfl rfl ?_
    exact ⟨_, rfl, rfl, (hS.sub [] (by decide) (by first | rfl | simp) (by simp))⟩
  · first | (replace hc969 := of_decide_eq_false hc969) | (replace hc969 := of_decide_eq_true (bnot_f hc969)) | (subst hc969) | (replace hc969 := bnot_f hc969; subst hc969) | (replace hc969 := bnot_f hc969) | skip
    refine seq_yl hF (wn_t hF rfl rfl rfl rfl) rfl rfl (yl_fieldAddr hF rfl rfl (fun w => by kernel_rfl : ∀ w, (Instr.fieldAt 39 (.pointer (some ⟨g968, 0, none⟩)) 4).run Try.prog w = .ok (.pointer (some ⟨g968, 4, none⟩)) w)) ?_
    clear hF; intro a hF
    refine seq_yl hF (wn_t hF rfl rfl rfl rfl) rfl rfl (yl_load (fun _ h => h ▸ hS) hF rfl rfl 0 rfl ag9 rfl) ?_
    clear hF; intro a hF
    refine seq_yl hF (wn_t hF rfl rfl rfl rfl) rfl rfl (yl_len hF rfl rfl (fun _ => run_lenStr Try.underlying9)) ?_
    clear hF; intro a hF
    refine seq_yl hF (wn_t hF rfl rfl rfl rfl) rfl rfl (yl_bin hF rfl rfl rfl rfl (fun _ => run_gtr)) ?_
    clear hF; intro a hF
    refine seq_yl hF (wn_none rfl) rfl rfl (yl_pick (u := _) (v := undef) hF rfl rfl (fun h => by cases h) (fun _ => rfl)) ?_
    clear hF; intro a hF
    refine wpList_nil ?_
    refine then_n ?_
    refine c_cond hF rfl (fun hc970 => ?_) (fun hc970 => ?_)
    · first | (replace hc970 := of_decide_eq_true hc970) | (replace hc970 := of_decide_eq_false (bnot_t hc970)) | (subst hc970) | (replace hc970 := bnot_t hc970; subst hc970) | (replace hc970 := bnot_t hc970) | skip
      refine c_seq ?_
      refine c_region ?_
      refine seq_yl hF (wn_none rfl) rfl rfl (yl_assign hF rfl rfl) ?_
      clear hF; intro a hF
      refine wpList_nil ?_
      refine then_n ?_
      refine wp_ret ?_
      refine then_r ?_
      refine ret_t hF rfl rfl ?_
      exact ⟨_, rfl, rfl, (hS.sub [] (by decide) (by first | rfl | simp) (by simp))⟩
    · first | (replace hc970 := of_decide_eq_false hc970) | (replace hc970 := of_decide_eq_true (bnot_f hc970)) | (subst hc970) | (replace hc970 := bnot_f hc970; subst hc970) | (replace hc970 := bnot_f hc970) | skip
      refine wp_skip ?_
      refine then_n ?_
      refine c_seq ?_
      refine c_region ?_
      refine seq_yl hF (wn_none rfl) rfl rfl (yl_loadK (rs := [_, _, _, _]) (fun _ h => h ▸ hS) hF rfl rfl 2 rfl ag25 sz25 rfl rfl) ?_
      clear hF; intro a hF
      refine seq_yl hF (wn_none rfl) rfl rfl (yl_loadK (rs := [_, _, _]) (fun _ h => h ▸ hS) hF rfl rfl 1 rfl ag27 sz27 rfl rfl) ?_
      clear hF; intro a hF
      refine seq_yl hF (wn_none rfl) rfl rfl (yl_move hF rfl rfl) ?_
      clear hF; intro a hF
      refine seq_yl hF (wn_none rfl) rfl rfl (yl_loadK (rs := [_, _, _, _, _, _, _, _, _, _, _, _]) (fun _ h => h ▸ hS) hF rfl rfl 0 rfl ag39 sz39 rfl rfl) ?_
      clear hF; intro a hF
      refine seq_wp (wn_none rfl) (wp_call (vs := [_, _, _, _]) hF rfl rfl rfl rfl cf13 (push_any (Qu.mk (qd) (qh) (qf) qL) (b) (e) (m) (now) c _ _ (hS.rdRo 3 rfl) (by first | omega | (simp; done) | (simp; omega))) ?_)
      clear hF; rintro _ w ⟨d971, h972, f973, er974, v976, L975, rfl, hp977, hS1⟩ a hF
      replace hS := hS.callB hS1 rfl; clear hS1
      obtain ⟨Av976, cv976, rfl⟩ := hS.form 0 rfl
      have hlhp977 := push_len hp977; dsimp only at hlhp977
      refine seq_yl hF (wn_none rfl) rfl rfl (yl_move hF rfl rfl) ?_
      clear hF; intro a hF
      refine seq_yl hF (wn_none rfl) rfl rfl (yl_extract hF rfl rfl rfl) ?_
      clear hF; intro a hF
      refine seq_yl hF (wn_none rfl) rfl rfl (yl_extract hF rfl rfl rfl) ?_
      clear hF; intro a hF
      refine seq_wp (wn_none rfl) (wp_alloc (cs := #[_, _, _, _]) hF hS rfl rfl rfl zr25 rfl ?_)
      clear hF hS; intro a w g978 hF hS
      refine seq_wp (wn_none rfl) (wp_store (cs' := #[_, _, _, _]) hF hS rfl rfl rfl rfl 0 rfl sz25 (by simp [Value.cells, Value.oneCell']) (by simp [Value.cells]) rfl ?_)
      clear hF hS; intro a w hF hS
      refine seq_yl hF (wn_none rfl) rfl rfl (yl_assign hF rfl rfl) ?_
      clear hF; intro a hF
      refine wpList_nil ?_
      refine then_n ?_
      refine c_seq ?_
      refine c_region ?_
      refine seq_yl hF (wn_none rfl) rfl rfl (yl_loadK (rs := [_, _, _, _]) (fun _ h => h ▸ hS) hF rfl rfl 4 rfl ag25 sz25 rfl rfl) ?_
      clear hF; intro a hF
      refine seq_yl hF (wn_none rfl) rfl rfl (yl_loadK (rs := [_, _, _]) (fun _ h => h ▸ hS) hF rfl rfl 3 rfl ag27 sz27 rfl rfl) ?_
      clear hF; intro a hF
      refine seq_yl hF (wn_none rfl) rfl rfl (yl_move hF rfl rfl) ?_
      clear hF; intro a hF
      refine seq_yl hF (wn_none rfl) rfl rfl (yl_loadK (rs := [_, _, _, _, _, _, _, _, _, _, _, _]) (fun _ h => h ▸ hS) hF rfl rfl 2 rfl ag39 sz39 rfl rfl) ?_
      clear hF; intro a hF
      refine seq_wp (wn_none rfl) (wp_call (vs := [_, _, _, _]) hF rfl rfl rfl rfl cf22 (push2_any (Qu.mk (qd) (qh) (qf) qL) (b) (e) (m) (now) c _ _ (hS.rdRo 5 rfl) (by first | omega | (simp; done) | (simp; omega))) ?_)
      clear hF; rintro _ w ⟨d979, h980, f981, er982, v984, L983, rfl, hp985, hS1⟩ a hF
      replace hS := hS.callB hS1 rfl; clear hS1
      obtain ⟨Av984, cv984, rfl⟩ := hS.form 0 rfl
      have hlhp985 := push_len hp985; dsimp only at hlhp985
      refine seq_yl hF (wn_none rfl) rfl rfl (yl_move hF rfl rfl) ?_
      clear hF; intro a hF
      refine seq_yl hF (wn_none rfl) rfl rfl (yl_extract hF rfl rfl rfl) ?_
      clear hF; intro a hF
      refine seq_yl hF (wn_none rfl) rfl rfl (yl_extract hF rfl rfl rfl) ?_
      clear hF; intro a hF
      refine seq_wp (wn_none rfl) (wp_alloc (cs := #[_, _, _, _]) hF hS rfl rfl rfl zr25 rfl ?_)
      clear hF hS; intro a w g986 hF hS
      refine seq_wp (wn_none rfl) (wp_store (cs' := #[_, _, _, _]) hF hS rfl rfl rfl rfl 0 rfl sz25 (by simp [Value.cells, Value.oneCell']) (by simp [Value.cells]) rfl ?_)
      clear hF hS; intro a w hF hS
      refine seq_yl hF (wn_none rfl) rfl rfl (yl_assign hF rfl rfl) ?_
      clear hF; intro a hF
      refine wpList_nil ?_
      refine then_n ?_
      refine c_seq ?_
      refine c_region ?_
      refine seq_yl hF (wn_none rfl) rfl rfl (yl_loadK (rs := [_, _, _, _]) (fun _ h => h ▸ hS) hF rfl rfl 6 rfl ag25 sz25 rfl rfl) ?_
      clear hF; intro a hF
      refine seq_yl hF (wn_none rfl) rfl rfl (yl_move hF rfl rfl) ?_
      clear hF; intro a hF
      have hl989 := done_len qL (now)
      refine seq_wp (wn_none rfl) (wp_call (vs := [_, _]) hF rfl rfl rfl rfl cf16 (done_any (qd) (qh) (qf) qL (now) _ _ (hS.rdRo 7 rfl) (by first | omega | (simp; done) | (simp; omega))) ?_)
      clear hF; rintro _ w ⟨v987, v988, rfl, hS1⟩ a hF
      replace hS := hS.callB hS1 rfl; clear hS1
      obtain ⟨Av987, cv987, rfl⟩ := hS.form 0 rfl
      obtain ⟨Av988, cv988, rfl⟩ := hS.form 1 rfl
      refine seq_yl hF (wn_none rfl) rfl rfl (yl_move hF rfl rfl) ?_
      clear hF; intro a hF
      refine seq_yl hF (wn_none rfl) rfl rfl (yl_extract hF rfl rfl rfl) ?_
      clear hF; intro a hF
      refine seq_yl hF (wn_none rfl) rfl rfl (yl_extract hF rfl rfl rfl) ?_
      clear hF; intro a hF
      refine seq_wp (wn_none rfl) (wp_alloc (cs := #[_, _, _, _]) hF hS rfl rfl rfl zr25 rfl ?_)
      clear hF hS; intro a w g990 hF hS
      refine seq_wp (wn_none rfl) (wp_store (cs' := #[_, _, _, _]) hF hS rfl rfl rfl rfl 0 rfl sz25 (by simp [Value.cells, Value.oneCell']) (by simp [Value.cells]) rfl ?_)
      clear hF hS; intro a w hF hS
      refine seq_yl hF (wn_none rfl) rfl rfl (yl_assign hF rfl rfl) ?_
      clear hF; intro a hF
      refine wpList_nil ?_
      refine then_n ?_
      refine c_seq ?_
      refine c_region ?_
      refine seq_yl hF (wn_none rfl) rfl rfl (yl_loadK (rs := [_, _, _, _]) (fun _ h => h ▸ hS) hF rfl rfl 9 rfl ag25 sz25 rfl rfl) ?_
      clear hF; intro a hF
      refine seq_yl hF (wn_none rfl) rfl rfl (yl_move hF rfl rfl) ?_
      clear hF; intro a hF
      have hl993 := done_len qL (now)
      refine seq_wp (wn_none rfl) (wp_call (vs := [_, _]) hF rfl rfl rfl rfl cf23 (done2_any (qd) (qh) (qf) qL (now) _ _ (hS.rdRo 10 rfl) (by first | omega | (simp; done) | (simp; omega))) ?_)
      clear hF; rintro _ w ⟨v991, v992, rfl, hS1⟩ a hF
      replace hS := hS.callB hS1 rfl; clear hS1
      obtain ⟨Av991, cv991, rfl⟩ := hS.form 0 rfl
      obtain ⟨Av992, cv992, rfl⟩ := hS.form 1 rfl
      refine seq_yl hF (wn_none rfl) rfl rfl (yl_move hF rfl rfl) ?_
      clear hF; intro a hF
      refine seq_yl hF (wn_none rfl) rfl rfl (yl_extract hF rfl rfl rfl) ?_
      clear hF; intro a hF
      refine seq_yl hF (wn_none rfl) rfl rfl (yl_extract hF rfl rfl rfl) ?_
      clear hF; intro a hF
      refine seq_wp (wn_none rfl) (wp_alloc (cs := #[_, _, _, _]) hF hS rfl rfl rfl zr25 rfl ?_)
      clear hF hS; intro a w g994 hF hS
      refine seq_wp (wn_none rfl) (wp_store (cs' := #[_, _, _, _]) hF hS rfl rfl rfl rfl 0 rfl sz25 (by simp [Value.cells, Value.oneCell']) (by simp [Value.cells]) rfl ?_)
      clear hF hS; intro a w hF hS
      refine seq_yl hF (wn_none rfl) rfl rfl (yl_assign hF rfl rfl) ?_
      clear hF; intro a hF
      refine wpList_nil ?_
      refine then_n ?_
      refine c_seq ?_
      refine c_region ?_
      refine seq_yl hF (wn_none rfl) rfl rfl (yl_loadK (rs := [_, _, _, _]) (fun _ h => h ▸ hS) hF rfl rfl 12 rfl ag25 sz25 rfl rfl) ?_
      clear hF; intro a hF
      refine seq_yl hF (wn_none rfl) rfl rfl (yl_fieldAddr hF rfl rfl (fun w => by kernel_rfl : ∀ w, (Instr.fieldAt 39 (.pointer (some ⟨g968, 0, none⟩)) 0).run Try.prog w = .ok (.pointer (some ⟨g968, 0, none⟩)) w)) ?_
      clear hF; intro a hF
      refine seq_yl hF (wn_none rfl) rfl rfl (yl_load (fun _ h => h ▸ hS) hF rfl rfl 10 rfl ag3 rfl) ?_
      clear hF; intro a hF
      refine seq_wp (wn_none rfl) (wp_call (vs := [_, _]) hF rfl rfl rfl rfl cf21 (take_any (qd) (qh) (qf) qL (c.f0) _ _ (hS.rdRo 13 rfl) (by first | omega | (simp; done) | (simp; omega))) ?_)
      clear hF; rintro _ w ⟨v995, L996, x997, b998, rfl, ht999, hS1⟩ a hF
      replace hS := hS.callB hS1 rfl; clear hS1
      obtain ⟨Av995, cv995, rfl⟩ := hS.form 0 rfl
      have hlht999 := take_len ht999
      refine seq_yl hF (wn_none rfl) rfl rfl (yl_move hF rfl rfl) ?_
      clear hF; intro a hF
      refine seq_yl hF (wn_none rfl) rfl rfl (yl_extract hF rfl rfl rfl) ?_
      clear hF; intro a hF
      refine seq_yl hF (wn_none rfl) rfl rfl (yl_extract hF rfl rfl rfl) ?_
      clear hF; intro a hF
      refine seq_yl hF (wn_none rfl) rfl rfl (yl_extract hF rfl rfl rfl) ?_
      clear hF; intro a hF
      refine seq_wp (wn_none rfl) (wp_alloc (cs := #[_, _, _, _]) hF hS rfl rfl rfl zr25 rfl ?_)
      clear hF hS; intro a w g1000 hF hS
      refine seq_wp (wn_none rfl) (wp_alloc (cs := #[_, _, _, _, _, _, _, _, _, _, _, _]) hF hS rfl rfl rfl zr39 rfl ?_)
      clear hF hS; intro a w g1001 hF hS
      refine seq_wp (wn_none rfl) (wp_store (cs' := #[_, _, _, _]) hF hS rfl rfl rfl rfl 1 rfl sz25 (by simp [Value.cells, Value.oneCell']) (by simp [Value.cells]) rfl ?_)
      clear hF hS; intro a w hF hS
      refine seq_wp (wn_none rfl) (wp_store (cs' := #[_, _, _, _, _, _, _, _, _, _, _, _]) hF hS rfl rfl rfl rfl 0 rfl sz39 (by simp [Value.cells, Value.oneCell']) (by simp [Value.cells]) rfl ?_)
      clear hF hS; intro a w hF hS
      refine seq_yl hF (wn_none rfl) rfl rfl (yl_assign hF rfl rfl) ?_
      clear hF; intro a hF
      refine wpList_nil ?_
      refine then_n ?_
      refine c_seq ?_
      refine c_region ?_
      refine seq_yl hF (wn_none rfl) rfl rfl (yl_loadK (rs := [_, _, _, _]) (fun _ h => h ▸ hS) hF rfl rfl 15 rfl ag25 sz25 rfl rfl) ?_
      clear hF; intro a hF
      refine seq_yl hF (wn_none rfl) rfl rfl (yl_fieldAddr hF rfl rfl (fun w => by kernel_rfl : ∀ w, (Instr.fieldAt 39 (.pointer (some ⟨g968, 0, none⟩)) 0).run Try.prog w = .ok (.pointer (some ⟨g968, 0, none⟩)) w)) ?_
      clear hF; intro a hF
      refine seq_yl hF (wn_none rfl) rfl rfl (yl_load (fun _ h => h ▸ hS) hF rfl rfl 13 rfl ag3 rfl) ?_
      clear hF; intro a hF
      refine seq_wp (wn_none rfl) (wp_call (vs := [_, _]) hF rfl rfl rfl rfl cf24 (take2_any (qd) (qh) (qf) qL (c.f0) _ _ (hS.rdRo 16 rfl) (by first | omega | (simp; done) | (simp; omega))) ?_)
      clear hF; rintro _ w ⟨v1002, L1003, x1004, b1005, rfl, ht1006, hS1⟩ a hF
      replace hS := hS.callB hS1 rfl; clear hS1
      obtain ⟨Av1002, cv1002, rfl⟩ := hS.form 0 rfl
      have hlht1006 := take_len ht1006
      refine seq_yl hF (wn_none rfl) rfl rfl (yl_move hF rfl rfl) ?_
      clear hF; intro a hF
      refine seq_yl hF (wn_none rfl) rfl rfl (yl_extract hF rfl rfl rfl) ?_
      clear hF; intro a hF
      refine seq_yl hF (wn_none rfl) rfl rfl (yl_extract hF rfl rfl rfl) ?_
      clear hF; intro a hF
      refine seq_yl hF (wn_none rfl) rfl rfl (yl_extract hF rfl rfl rfl) ?_
      clear hF; intro a hF
      refine seq_wp (wn_none rfl) (wp_alloc (cs := #[_, _, _, _]) hF hS rfl rfl rfl zr25 rfl ?_)
      clear hF hS; intro a w g1007 hF hS
      refine seq_wp (wn_none rfl) (wp_alloc (cs := #[_, _, _, _, _, _, _, _, _, _, _, _]) hF hS rfl rfl rfl zr39 rfl ?_)
      clear hF hS; intro a w g1008 hF hS
      refine seq_wp (wn_none rfl) (wp_store (cs' := #[_, _, _, _]) hF hS rfl rfl rfl rfl 1 rfl sz25 (by simp [Value.cells, Value.oneCell']) (by simp [Value.cells]) rfl ?_)
      clear hF hS; intro a w hF hS
      refine seq_wp (wn_none rfl) (wp_store (cs' := #[_, _, _, _, _, _, _, _, _, _, _, _]) hF hS rfl rfl rfl rfl 0 rfl sz39 (by simp [Value.cells, Value.oneCell']) (by simp [Value.cells]) rfl ?_)
      clear hF hS; intro a w hF hS
      refine seq_yl hF (wn_none rfl) rfl rfl (yl_assign hF rfl rfl) ?_
      clear hF; intro a hF
      refine wpList_nil ?_
      refine then_n ?_
      refine c_seq ?_
      refine c_region ?_
      refine seq_yl hF (wn_none rfl) rfl rfl (yl_loadK (rs := [_, _, _, _]) (fun _ h => h ▸ hS) hF rfl rfl 18 rfl ag25 sz25 rfl rfl) ?_
      clear hF; intro a hF
      refine seq_yl hF (wn_none rfl) rfl rfl (yl_move hF rfl rfl) ?_
      clear hF; intro a hF
      refine seq_wp (wn_none rfl) (wp_call (vs := [_, _]) hF rfl rfl rfl rfl cf19 (reset_any (qd) (qh) (qf) qL (now) _ _ (hS.rdRo 19 rfl) (by first | omega | (simp; done) | (simp; omega))) ?_)
      clear hF; rintro _ w ⟨v1009, v1010, rfl, hS1⟩ a hF
      replace hS := hS.callB hS1 rfl; clear hS1
      obtain ⟨Av1009, cv1009, rfl⟩ := hS.form 0 rfl
      obtain ⟨Av1010, cv1010, rfl⟩ := hS.form 1 rfl
      refine seq_yl hF (wn_none rfl) rfl rfl (yl_move hF rfl rfl) ?_
      clear hF; intro a hF
      refine seq_yl hF (wn_none rfl) rfl rfl (yl_extract hF rfl rfl rfl) ?_
      clear hF; intro a hF
      refine seq_yl hF (wn_none rfl) rfl rfl (yl_extract hF rfl rfl rfl) ?_
      clear hF; intro a hF
      refine seq_wp (wn_none rfl) (wp_alloc (cs := #[_, _, _, _]) hF hS rfl rfl rfl zr25 rfl ?_)
      clear hF hS; intro a w g1011 hF hS
      refine seq_wp (wn_none rfl) (wp_store (cs' := #[_, _, _, _]) hF hS rfl rfl rfl rfl 0 rfl sz25 (by simp [Value.cells, Value.oneCell']) (by simp [Value.cells]) rfl ?_)
      clear hF hS; intro a w hF hS
      refine seq_yl hF (wn_none rfl) rfl rfl (yl_assign hF rfl rfl) ?_
      clear hF; intro a hF
      refine wpList_nil ?_
      refine then_n ?_
      refine c_seq ?_
      refine c_region ?_
      refine seq_yl hF (wn_none rfl) rfl rfl (yl_loadK (rs := [_, _, _, _]) (fun _ h => h ▸ hS) hF rfl rfl 21 rfl ag25 sz25 rfl rfl) ?_
      clear hF; intro a hF
      refine seq_yl hF (wn_none rfl) rfl rfl (yl_move hF rfl rfl) ?_
      clear hF; intro a hF
      refine seq_wp (wn_none rfl) (wp_call (vs := [_, _]) hF rfl rfl rfl rfl cf26 (reset2_any (qd) (qh) (qf) qL (now) _ _ (hS.rdRo 22 rfl) (by first | omega | (simp; done) | (simp; omega))) ?_)
      clear hF; rintro _ w ⟨v1012, v1013, rfl, hS1⟩ a hF
      replace hS := hS.callB hS1 rfl; clear hS1
      obtain ⟨Av1012, cv1012, rfl⟩ := hS.form 0 rfl
      obtain ⟨Av1013, cv1013, rfl⟩ := hS.form 1 rfl
      refine seq_yl hF (wn_none rfl) rfl rfl (yl_move hF rfl rfl) ?_
      clear hF; intro a hF
      refine seq_yl hF (wn_none rfl) rfl rfl (yl_extract hF rfl rfl rfl) ?_
      clear hF; intro a hF
      refine seq_yl hF (wn_none rfl) rfl rfl (yl_extract hF rfl rfl rfl) ?_
      clear hF; intro a hF
      refine seq_wp (wn_none rfl) (wp_alloc (cs := #[_, _, _, _]) hF hS rfl rfl rfl zr25 rfl ?_)
      clear hF hS; intro a w g1014 hF hS
      refine seq_wp (wn_none rfl) (wp_store (cs' := #[_, _, _, _]) hF hS rfl rfl rfl rfl 0 rfl sz25 (by simp [Value.cells, Value.oneCell']) (by simp [Value.cells]) rfl ?_)
      clear hF hS; intro a w hF hS
      refine seq_yl hF (wn_none rfl) rfl rfl (yl_assign hF rfl rfl) ?_
      clear hF; intro a hF
      refine wpList_nil ?_
      refine then_n ?_
      refine c_seq ?_
      refine c_region ?_
      refine seq_yl hF (wn_none rfl) rfl rfl (yl_loadK (rs := [_, _, _, _]) (fun _ h => h ▸ hS) hF rfl rfl 24 rfl ag25 sz25 rfl rfl) ?_
      clear hF; intro a hF
      refine seq_wp (wn_none rfl) (wp_call (vs := [_]) hF rfl rfl rfl rfl cf17 (next_any (qd) (qh) (qf) qL _ _ (hS.rdRo 25 rfl) (by first | omega | (simp; done) | (simp; omega))) ?_)
      clear hF; rintro _ w ⟨l1015, fd1016, rfl, hnx1017, hS1⟩ a hF
      replace hS := hS.callB hS1 rfl; clear hS1
      refine seq_yl hF (wn_none rfl) rfl rfl (yl_move hF rfl rfl) ?_
      clear hF; intro a hF
      refine seq_yl hF (wn_none rfl) rfl rfl (yl_extract hF rfl rfl rfl) ?_
      clear hF; intro a hF
      refine seq_yl hF (wn_none rfl) rfl rfl (yl_extract hF rfl rfl rfl) ?_
      clear hF; intro a hF
      refine seq_yl hF (wn_none rfl) rfl rfl (yl_assign hF rfl rfl) ?_
      clear hF; intro a hF
      refine seq_yl hF (wn_none rfl) rfl rfl (yl_assign hF rfl rfl) ?_
      clear hF; intro a hF
      refine wpList_nil ?_
      refine then_n ?_
      refine c_seq ?_
      refine c_region ?_
      refine seq_yl hF (wn_none rfl) rfl rfl (yl_loadK (rs := [_, _, _, _]) (fun _ h => h ▸ hS) hF rfl rfl 24 rfl ag25 sz25 rfl rfl) ?_
      clear hF; intro a hF
      refine seq_wp (wn_none rfl) (wp_call (vs := [_]) hF rfl rfl rfl rfl cf27 (next2_any (qd) (qh) (qf) qL _ _ (hS.rdRo 25 rfl) (by first | omega | (simp; done) | (simp; omega))) ?_)
      clear hF; rintro _ w ⟨l1018, fd1019, rfl, hnx1020, hS1⟩ a hF
      replace hS := hS.callB hS1 rfl; clear hS1
      refine seq_yl hF (wn_none rfl) rfl rfl (yl_move hF rfl rfl) ?_
      clear hF; intro a hF
      refine seq_yl hF (wn_none rfl) rfl rfl (yl_extract hF rfl rfl rfl) ?_
      clear hF; intro a hF
      refine seq_yl hF (wn_none rfl) rfl rfl (yl_extract hF rfl rfl rfl) ?_
      clear hF; intro a hF
      refine seq_yl hF (wn_none rfl) rfl rfl (yl_assign hF rfl rfl) ?_
      clear hF; intro a hF
      refine seq_yl hF (wn_none rfl) rfl rfl (yl_assign hF rfl rfl) ?_
      clear hF; intro a hF
      refine wpList_nil ?_
      refine then_n ?_
      refine c_seq ?_
      refine ha_startS hS [23, 20, 18, 15, 12, 10, 7, 9, 6, 3, 0] 72 (by kernel_rfl) ?_; clear hS; intro w hS
      have hSS := hS.sub [23, 20, 18, 15, 12, 10, 7, 9, 6, 3, 0] (by decide) rfl (by simp)
      refine ha_y 1 hF rfl rfl rfl (wn_none rfl) (.inr hSS) (yl_move hF rfl rfl) ?_
      clear hF; intro a hF
      refine ha_y 2 hF rfl rfl rfl (wn_none rfl) (.inr hSS) (yl_move hF rfl rfl) ?_
      clear hF; intro a hF
      refine ha_y 3 hF rfl rfl rfl (wn_none rfl) (.inr hSS) (yl_move hF rfl rfl) ?_
      clear hF; intro a hF
      refine ha_y 4 hF rfl rfl rfl (wn_none rfl) (.inr hSS) (yl_move hF rfl rfl) ?_
      clear hF; intro a hF
      refine ha_y 7 hF rfl rfl rfl (wn_none rfl) (.inr hSS) (yl_move hF rfl rfl) ?_
      clear hF; intro a hF
      refine ha_y 8 hF rfl rfl rfl (wn_none rfl) (.inr hSS) (yl_move hF rfl rfl) ?_
      clear hF; intro a hF
      refine ha_y 9 hF rfl rfl rfl (wn_none rfl) (.inr hSS) (yl_move hF rfl rfl) ?_
      clear hF; intro a hF
      refine ha_y 10 hF rfl rfl rfl (wn_none rfl) (.inr hSS) (yl_move hF rfl rfl) ?_
      clear hF; intro a hF
      refine ha_l 0 hF rfl rfl rfl (wn_none rfl) hSS (yl_loadK (rs := [_, _, _]) (fun _ h => h) hF rfl rfl 0 rfl ag27 sz27 rfl rfl) ?_
      clear hF; intro a hF
      refine ha_l 6 hF rfl rfl rfl (wn_none rfl) hSS (yl_loadK (rs := [_, _, _]) (fun _ h => h) hF rfl rfl 0 rfl ag27 sz27 rfl rfl) ?_
      clear hF; intro a hF
      refine ha_one 5 (by kernel_rfl) rfl (wn_none rfl) (wp_call (vs := [_, _, _, _, _]) hF rfl rfl rfl rfl cf15 (cost_any (b) (e) (m) (n0) (n1) (n2) (n3) _) ?_)
      clear hF; rintro _ w ⟨rfl, hS1⟩ a hF
      replace hS := hS.callB hS1 rfl; clear hS1
      replace hSS := hS.sub [23, 20, 18, 15, 12, 10, 7, 9, 6, 3, 0] (by decide) rfl (by simp)
      refine ⟨.inr hSS, ?_⟩
      refine ha_one 11 (by kernel_rfl) rfl (wn_none rfl) (wp_call (vs := [_, _, _, _, _]) hF rfl rfl rfl rfl cf28 (cost2_any (b) (e) (m) (n0) (n1) (n2) (n3) _) ?_)
      clear hF; rintro _ w ⟨rfl, hS1⟩ a hF
      replace hS := hS.callB hS1 rfl; clear hS1
      replace hSS := hS.sub [23, 20, 18, 15, 12, 10, 7, 9, 6, 3, 0] (by decide) rfl (by simp)
      refine ⟨.inr hSS, ?_⟩
      refine ha_y 12 hF rfl rfl rfl (wn_none rfl) (.inr hSS) (yl_bin hF rfl rfl rfl rfl (fun _ => run_eql)) ?_
      clear hF; intro a hF
      replace hF := fr_set (b' := true) hF (by simp)
      refine ha_y 13 hF rfl rfl rfl (wn_none rfl) (.inr hSS) (yl_move hF rfl rfl) ?_
      clear hF; intro a hF
      refine ha_l 14 hF rfl rfl rfl (wn_t hF rfl rfl rfl rfl) hSS (yl_loadK (rs := [_, _, _, _]) (fun _ h => h) hF rfl rfl 1 rfl ag25 sz25 rfl rfl) ?_
      clear hF; intro a hF
      refine ha_l 15 hF rfl rfl rfl (wn_t hF rfl rfl rfl rfl) hSS (yl_loadK (rs := [_, _, _, _]) (fun _ h => h) hF rfl rfl 2 rfl ag25 sz25 rfl rfl) ?_
      clear hF; intro a hF
      refine ha_one 16 (by kernel_rfl) rfl (wn_t hF rfl rfl rfl rfl) (wp_call (vs := [_, _]) hF rfl rfl rfl rfl cf18 (sameQ_any (Qu.mk (d971) (h972) (f973) L975) (Qu.mk (d979) (h980) (f981) L983) _ _ _ (hS.rdRow 21 rfl) (hS.rdRow 19 rfl) (by first | omega | (simp; done) | (simp; omega))) ?_)
      clear hF; rintro _ w ⟨rfl, hS1⟩ a hF
      replace hS := hS.callB hS1 rfl; clear hS1
      replace hSS := hS.sub [23, 20, 18, 15, 12, 10, 7, 9, 6, 3, 0] (by decide) rfl (by simp)
      refine ⟨.inr hSS, ?_⟩
      replace hF := fr_set (b' := true) hF (by rw [decide_eq_true_eq]; exact congrArg Prod.fst (hp977.symm.trans hp985))
      refine ha_y 17 hF rfl rfl rfl (wn_none rfl) (.inr hSS) (yl_pick (u := _) (v := undef) hF rfl rfl (fun _ => rfl) (fun h => by cases h)) ?_
      clear hF; intro a hF
      refine ha_y 18 hF rfl rfl rfl (wn_none rfl) (.inr hSS) (yl_move hF rfl rfl) ?_
      clear hF; intro a hF
      refine ha_y 19 hF rfl rfl rfl (wn_t hF rfl rfl rfl rfl) (.inr hSS) (yl_move hF rfl rfl) ?_
      clear hF; intro a hF
      refine ha_y 20 hF rfl rfl rfl (wn_t hF rfl rfl rfl rfl) (.inr hSS) (yl_move hF rfl rfl) ?_
      clear hF; intro a hF
      refine ha_y 21 hF rfl rfl rfl (wn_t hF rfl rfl rfl rfl) (.inr hSS) (yl_bin hF rfl rfl rfl rfl (fun _ => run_eql)) ?_
      clear hF; intro a hF
      replace hF := fr_set (b' := true) hF (by rw [decide_eq_true_eq]; exact congrArg Prod.snd (hp977.symm.trans hp985))
      refine ha_y 22 hF rfl rfl rfl (wn_none rfl) (.inr hSS) (yl_pick (u := _) (v := undef) hF rfl rfl (fun _ => rfl) (fun h => by cases h)) ?_
      clear hF; intro a hF
      refine ha_y 23 hF rfl rfl rfl (wn_none rfl) (.inr hSS) (yl_move hF rfl rfl) ?_
      clear hF; intro a hF
      refine ha_l 24 hF rfl rfl rfl (wn_t hF rfl rfl rfl rfl) hSS (yl_loadK (rs := [_, _, _, _]) (fun _ h => h) hF rfl rfl 3 rfl ag25 sz25 rfl rfl) ?_
      clear hF; intro a hF
      refine ha_l 25 hF rfl rfl rfl (wn_t hF rfl rfl rfl rfl) hSS (yl_loadK (rs := [_, _, _, _]) (fun _ h => h) hF rfl rfl 4 rfl ag25 sz25 rfl rfl) ?_
      clear hF; intro a hF
      refine ha_one 26 (by kernel_rfl) rfl (wn_t hF rfl rfl rfl rfl) (wp_call (vs := [_, _]) hF rfl rfl rfl rfl cf18 (sameQ_any (Qu.mk ((qd)) ((qh)) ((qf)) (restF qL (now))) (Qu.mk ((qd)) ((qh)) ((qf)) (restF qL (now))) _ _ _ (hS.rdRow 16 rfl) (hS.rdRow 13 rfl) (by first | omega | (simp; done) | (simp; omega))) ?_)
      clear hF; rintro _ w ⟨rfl, hS1⟩ a hF
      replace hS := hS.callB hS1 rfl; clear hS1
      replace hSS := hS.sub [23, 20, 18, 15, 12, 10, 7, 9, 6, 3, 0] (by decide) rfl (by simp)
      refine ⟨.inr hSS, ?_⟩
      replace hF := fr_set (b' := true) hF (by simp)
      refine ha_y 27 hF rfl rfl rfl (wn_none rfl) (.inr hSS) (yl_pick (u := _) (v := undef) hF rfl rfl (fun _ => rfl) (fun h => by cases h)) ?_
      clear hF; intro a hF
      refine ha_y 28 hF rfl rfl rfl (wn_none rfl) (.inr hSS) (yl_move hF rfl rfl) ?_
      clear hF; intro a hF
      refine ha_y 29 hF rfl rfl rfl (wn_t hF rfl rfl rfl rfl) (.inr hSS) (yl_move hF rfl rfl) ?_
      clear hF; intro a hF
      refine ha_y 30 hF rfl rfl rfl (wn_t hF rfl rfl rfl rfl) (.inr hSS) (yl_move hF rfl rfl) ?_
      clear hF; intro a hF
      refine ha_one 31 (by kernel_rfl) rfl (wn_t hF rfl rfl rfl rfl) (wp_call (vs := [_, _]) hF rfl rfl rfl rfl cf20 (sameC_any _ _ (doneF qL (now)) (doneF qL (now)) _ (hS.rdRow 17 rfl) (hS.rdRow 14 rfl) (by first | omega | (simp; done) | (simp; omega))) ?_)
      clear hF; rintro _ w ⟨rfl, hS1⟩ a hF
      replace hS := hS.callB hS1 rfl; clear hS1
      replace hSS := hS.sub [23, 20, 18, 15, 12, 10, 7, 9, 6, 3, 0] (by decide) rfl (by simp)
      refine ⟨.inr hSS, ?_⟩
      replace hF := fr_set (b' := true) hF (by simp)
      refine ha_y 32 hF rfl rfl rfl (wn_none rfl) (.inr hSS) (yl_pick (u := _) (v := undef) hF rfl rfl (fun _ => rfl) (fun h => by cases h)) ?_
      clear hF; intro a hF
      refine ha_y 33 hF rfl rfl rfl (wn_none rfl) (.inr hSS) (yl_move hF rfl rfl) ?_
      clear hF; intro a hF
      refine ha_l 34 hF rfl rfl rfl (wn_t hF rfl rfl rfl rfl) hSS (yl_loadK (rs := [_, _, _, _]) (fun _ h => h) hF rfl rfl 5 rfl ag25 sz25 rfl rfl) ?_
      clear hF; intro a hF
      refine ha_l 35 hF rfl rfl rfl (wn_t hF rfl rfl rfl rfl) hSS (yl_loadK (rs := [_, _, _, _]) (fun _ h => h) hF rfl rfl 6 rfl ag25 sz25 rfl rfl) ?_
      clear hF; intro a hF
      refine ha_one 36 (by kernel_rfl) rfl (wn_t hF rfl rfl rfl rfl) (wp_call (vs := [_, _]) hF rfl rfl rfl rfl cf18 (sameQ_any (Qu.mk ((qd)) ((qh)) ((qf)) L996) (Qu.mk ((qd)) ((qh)) ((qf)) L1003) _ _ _ (hS.rdRow 11 rfl) (hS.rdRow 8 rfl) (by first | omega | (simp; done) | (simp; omega))) ?_)
      clear hF; rintro _ w ⟨rfl, hS1⟩ a hF
      replace hS := hS.callB hS1 rfl; clear hS1
      replace hSS := hS.sub [23, 20, 18, 15, 12, 10, 7, 9, 6, 3, 0] (by decide) rfl (by simp)
      refine ⟨.inr hSS, ?_⟩
      replace hF := fr_set (b' := true) hF (by rw [show L996 = L1003 from congrArg (fun p => p.1) (ht999.symm.trans ht1006)]; simp)
      refine ha_y 37 hF rfl rfl rfl (wn_none rfl) (.inr hSS) (yl_pick (u := _) (v := undef) hF rfl rfl (fun _ => rfl) (fun h => by cases h)) ?_
      clear hF; intro a hF
      refine ha_y 38 hF rfl rfl rfl (wn_none rfl) (.inr hSS) (yl_move hF rfl rfl) ?_
      clear hF; intro a hF
      refine ha_l 39 hF rfl rfl rfl (wn_t hF rfl rfl rfl rfl) hSS (yl_loadK (rs := [_, _, _, _, _, _, _, _, _, _, _, _]) (fun _ h => h) hF rfl rfl 7 rfl ag39 sz39 rfl rfl) ?_
      clear hF; intro a hF
      refine ha_l 40 hF rfl rfl rfl (wn_t hF rfl rfl rfl rfl) hSS (yl_loadK (rs := [_, _, _, _, _, _, _, _, _, _, _, _]) (fun _ h => h) hF rfl rfl 8 rfl ag39 sz39 rfl rfl) ?_
      clear hF; intro a hF
      refine ha_y 41 hF rfl rfl rfl (wn_t hF rfl rfl rfl rfl) (.inr hSS) (yl_binA hF rfl rfl rfl (fun w => run_eqGuard_agg w _ _ _ _ _ _ hm39) (fun w => eqs39 _ _ _ _ _ _ _ _ _ _ _ _ _ _ _ _ _ _ _ _ _ _ _ _ w)) ?_
      clear hF; intro a hF
      replace hF := fr_set (b' := true) hF (by rw [show x997 = x1004 from congrArg (fun p => p.2.1) (ht999.symm.trans ht1006)]; simp)
      refine ha_y 42 hF rfl rfl rfl (wn_none rfl) (.inr hSS) (yl_pick (u := _) (v := undef) hF rfl rfl (fun _ => rfl) (fun h => by cases h)) ?_
      clear hF; intro a hF
      refine ha_y 43 hF rfl rfl rfl (wn_none rfl) (.inr hSS) (yl_move hF rfl rfl) ?_
      clear hF; intro a hF
      refine ha_y 44 hF rfl rfl rfl (wn_t hF rfl rfl rfl rfl) (.inr hSS) (yl_move hF rfl rfl) ?_
      clear hF; intro a hF
      refine ha_y 45 hF rfl rfl rfl (wn_t hF rfl rfl rfl rfl) (.inr hSS) (yl_move hF rfl rfl) ?_
      clear hF; intro a hF
      refine ha_y 46 hF rfl rfl rfl (wn_t hF rfl rfl rfl rfl) (.inr hSS) (yl_bin hF rfl rfl rfl rfl (fun _ => run_eqb Try.underlying4)) ?_
      clear hF; intro a hF
      replace hF := fr_set (b' := true) hF (by rw [show b998 = b1005 from congrArg (fun p => p.2.2) (ht999.symm.trans ht1006)]; simp)
      refine ha_y 47 hF rfl rfl rfl (wn_none rfl) (.inr hSS) (yl_pick (u := _) (v := undef) hF rfl rfl (fun _ => rfl) (fun h => by cases h)) ?_
      clear hF; intro a hF
      refine ha_y 48 hF rfl rfl rfl (wn_none rfl) (.inr hSS) (yl_move hF rfl rfl) ?_
      clear hF; intro a hF
      refine ha_l 49 hF rfl rfl rfl (wn_t hF rfl rfl rfl rfl) hSS (yl_loadK (rs := [_, _, _, _]) (fun _ h => h) hF rfl rfl 9 rfl ag25 sz25 rfl rfl) ?_
      clear hF; intro a hF
      refine ha_l 50 hF rfl rfl rfl (wn_t hF rfl rfl rfl rfl) hSS (yl_loadK (rs := [_, _, _, _]) (fun _ h => h) hF rfl rfl 10 rfl ag25 sz25 rfl rfl) ?_
      clear hF; intro a hF
      refine ha_one 51 (by kernel_rfl) rfl (wn_t hF rfl rfl rfl rfl) (wp_call (vs := [_, _]) hF rfl rfl rfl rfl cf18 (sameQ_any (Qu.mk ((qd)) (0 : Int) ((now)) ([] : List E39)) (Qu.mk ((qd)) (0 : Int) ((now)) ([] : List E39)) _ _ _ (hS.rdRow 4 rfl) (hS.rdRow 1 rfl) (by first | omega | (simp; done) | (simp; omega))) ?_)
      clear hF; rintro _ w ⟨rfl, hS1⟩ a hF
      replace hS := hS.callB hS1 rfl; clear hS1
      replace hSS := hS.sub [23, 20, 18, 15, 12, 10, 7, 9, 6, 3, 0] (by decide) rfl (by simp)
      refine ⟨.inr hSS, ?_⟩
      replace hF := fr_set (b' := true) hF (by simp)
      refine ha_y 52 hF rfl rfl rfl (wn_none rfl) (.inr hSS) (yl_pick (u := _) (v := undef) hF rfl rfl (fun _ => rfl) (fun h => by cases h)) ?_
      clear hF; intro a hF
      refine ha_y 53 hF rfl rfl rfl (wn_none rfl) (.inr hSS) (yl_move hF rfl rfl) ?_
      clear hF; intro a hF
      refine ha_y 54 hF rfl rfl rfl (wn_t hF rfl rfl rfl rfl) (.inr hSS) (yl_move hF rfl rfl) ?_
      clear hF; intro a hF
      refine ha_y 55 hF rfl rfl rfl (wn_t hF rfl rfl rfl rfl) (.inr hSS) (yl_move hF rfl rfl) ?_
      clear hF; intro a hF
      refine ha_one 56 (by kernel_rfl) rfl (wn_t hF rfl rfl rfl rfl) (wp_call (vs := [_, _]) hF rfl rfl rfl rfl cf20 (sameC_any _ _ qL qL _ (hS.rdRow 5 rfl) (hS.rdRow 2 rfl) (by first | omega | (simp; done) | (simp; omega))) ?_)
      clear hF; rintro _ w ⟨rfl, hS1⟩ a hF
      replace hS := hS.callB hS1 rfl; clear hS1
      replace hSS := hS.sub [23, 20, 18, 15, 12, 10, 7, 9, 6, 3, 0] (by decide) rfl (by simp)
      refine ⟨.inr hSS, ?_⟩
      replace hF := fr_set (b' := true) hF (by simp)
      refine ha_y 57 hF rfl rfl rfl (wn_none rfl) (.inr hSS) (yl_pick (u := _) (v := undef) hF rfl rfl (fun _ => rfl) (fun h => by cases h)) ?_
      clear hF; intro a hF
      refine ha_y 58 hF rfl rfl rfl (wn_none rfl) (.inr hSS) (yl_move hF rfl rfl) ?_
      clear hF; intro a hF
      refine ha_y 59 hF rfl rfl rfl (wn_t hF rfl rfl rfl rfl) (.inr hSS) (yl_move hF rfl rfl) ?_
      clear hF; intro a hF
      refine ha_y 60 hF rfl rfl rfl (wn_t hF rfl rfl rfl rfl) (.inr hSS) (yl_move hF rfl rfl) ?_
      clear hF; intro a hF
      refine ha_y 61 hF rfl rfl rfl (wn_t hF rfl rfl rfl rfl) (.inr hSS) (yl_bin hF rfl rfl rfl rfl (fun _ => run_eql)) ?_
      clear hF; intro a hF
      replace hF := fr_set (b' := true) hF (by rw [show l1015 = l1018 from congrArg (fun p => p.1) (hnx1017.symm.trans hnx1020)]; simp)
      refine ha_y 62 hF rfl rfl rfl (wn_none rfl) (.inr hSS) (yl_pick (u := _) (v := undef) hF rfl rfl (fun _ => rfl) (fun h => by cases h)) ?_
      clear hF; intro a hF
      refine ha_y 63 hF rfl rfl rfl (wn_none rfl) (.inr hSS) (yl_move hF rfl rfl) ?_
      clear hF; intro a hF
      refine ha_y 64 hF rfl rfl rfl (wn_t hF rfl rfl rfl rfl) (.inr hSS) (yl_move hF rfl rfl) ?_
      clear hF; intro a hF
      refine ha_y 65 hF rfl rfl rfl (wn_t hF rfl rfl rfl rfl) (.inr hSS) (yl_move hF rfl rfl) ?_
      clear hF; intro a hF
      refine ha_y 66 hF rfl rfl rfl (wn_t hF rfl rfl rfl rfl) (.inr hSS) (yl_bin hF rfl rfl rfl rfl (fun _ => run_eqb Try.underlying4)) ?_
      clear hF; intro a hF
      replace hF := fr_set (b' := true) hF (by rw [show fd1016 = fd1019 from congrArg (fun p => p.2) (hnx1017.symm.trans hnx1020)]; simp)
      refine ha_y 67 hF rfl rfl rfl (wn_none rfl) (.inr hSS) (yl_pick (u := _) (v := undef) hF rfl rfl (fun _ => rfl) (fun h => by cases h)) ?_
      clear hF; intro a hF
      refine ha_y 68 hF rfl rfl rfl (wn_none rfl) (.inr hSS) (yl_move hF rfl rfl) ?_
      clear hF; intro a hF
      refine ha_one 69 (by kernel_rfl) rfl (wn_t hF rfl rfl rfl rfl) (wp_call (vs := []) hF rfl rfl rfl rfl cf14 (awake_any _) ?_)
      clear hF; rintro _ w ⟨rfl, hS1⟩ a hF
      replace hS := hS.callB hS1 rfl; clear hS1
      replace hSS := hS.sub [23, 20, 18, 15, 12, 10, 7, 9, 6, 3, 0] (by decide) rfl (by simp)
      refine ⟨.inr hSS, ?_⟩
      refine ha_y 70 hF rfl rfl rfl (wn_none rfl) (.inr hSS) (yl_pick (u := _) (v := undef) hF rfl rfl (fun _ => rfl) (fun h => by cases h)) ?_
      clear hF; intro a hF
      refine ha_y 71 hF rfl rfl rfl (wn_none rfl) (.inr hSS) (yl_assign hF rfl rfl) ?_
      clear hF; intro a hF
      refine ha_done (by kernel_rfl) ?_ _
      refine then_n ?_
      refine wp_ret ?_
      refine ret_t hF rfl rfl ?_
      exact ⟨_, rfl, rfl, (hS.sub [] (by decide) (by first | rfl | simp) (by simp))⟩

end Go.Proofs.Ytjjjmpkmjicpbaa

/- walks, printed by wip/gen -/
import Derived.Test.YtffaminjbcfojaaW4
namespace Go.Proofs.Ytffaminjbcfojaa
open Go.RowKit
set_option linter.unusedVariables false
set_option linter.unusedSimpArgs false

set_option maxRecDepth 100000 in
theorem add2_any (v0 : Value) (L : List E44) (t u : Int) (w0 : World) (hv : Rd w0 2 v0 (L).length (cells enc44 (L))) (hL : L.length ≤ 1000000) :
    Fn Try.prog 10 #[v0, .int .i64 t, .int .i64 u] w0 (fun v w' => ∃ (v1 : Value) (L1 : List E44) (e : Int), v = .tuple #[v1, .int .i64 e] ∧ addF L t u = (L1, e) ∧ (Sat w0 w' [.row 44 2 v1 (L1).length (cells enc44 (L1))] ∨ (v1 = v0 ∧ L1 = L ∧ Sat w0 w' []))) := by
  obtain ⟨Av0, cv0, rfl⟩ := Rd.form hv
  refine c_enter (N := 28) (l := [_, _, _]) Try.func10 rfl rfl (fun a w hF hS => ?_)
  replace hS := hS.addRo hv
  refine c_seq ?_
  refine c_region ?_
  refine seq_yl hF (wn_none rfl) rfl rfl (yl_assign hF rfl rfl) ?_
  clear hF; intro a hF
  refine seq_yl hF (wn_none rfl) rfl rfl (yl_assign hF rfl rfl) ?_
  clear hF; intro a hF
  refine wpList_nil ?_
  refine then_n ?_
  refine c_seq ?_
  refine c_seq ?_
  refine c_region ?_
  refine seq_yl hF (wn_none rfl) rfl rfl (yl_move hF rfl rfl) ?_
  clear hF; intro a hF
  refine seq_yl hF (wn_none rfl) rfl rfl (yl_move hF rfl rfl) ?_
  clear hF; intro a hF
  refine seq_yl hF (wn_none rfl) rfl rfl (yl_move hF rfl rfl) ?_
  clear hF; intro a hF
  refine seq_wp (wn_none rfl) (wp_call (vs := [_, _, _, _]) hF rfl rfl rfl rfl cf28 (refuseT _ L (t) (u) _ (hS.rdRo 0 rfl) (by first | omega | (simp; done) | (simp; omega))) ?_)
  clear hF; rintro _ w ⟨rfl, hS1⟩ a hF
  replace hS := hS.callB hS1 rfl; clear hS1
  refine seq_yl hF (wn_none rfl) rfl rfl (yl_assign hF rfl rfl) ?_
  clear hF; intro a hF
  refine wpList_nil ?_
  refine then_n ?_
  refine c_seq ?_
  refine c_region ?_
  refine seq_yl hF (wn_none rfl) rfl rfl (yl_move hF rfl rfl) ?_
  clear hF; intro a hF
  refine seq_yl hF (wn_none rfl) rfl rfl (yl_bin hF rfl rfl rfl rfl (fun _ => run_neq)) ?_
  clear hF; intro a hF
  refine wpList_nil ?_
  refine then_n ?_
  refine c_cond hF rfl (fun hc92 => ?_) (fun hc92 => ?_)
  · first | (replace hc92 := of_decide_eq_true hc92) | (replace hc92 := of_decide_eq_false (bnot_t hc92)) | (subst hc92) | (replace hc92 := bnot_t hc92; subst hc92) | (replace hc92 := bnot_t hc92) | skip
    refine c_seq ?_
    refine c_region ?_
    refine seq_yl hF (wn_none rfl) rfl rfl (yl_move hF rfl rfl) ?_
    clear hF; intro a hF
    refine seq_yl hF (wn_none rfl) rfl rfl (yl_move hF rfl rfl) ?_
    clear hF; intro a hF
    refine seq_yl hF (wn_none rfl) rfl rfl (yl_assign hF rfl rfl) ?_
    clear hF; intro a hF
    refine seq_yl hF (wn_none rfl) rfl rfl (yl_assign hF rfl rfl) ?_
    clear hF; intro a hF
    refine wpList_nil ?_
    refine then_n ?_
    refine wp_ret ?_
    refine then_r ?_
    refine ret_tt hF rfl rfl rfl ?_
    exact ⟨_, rfl, _, _, _, rfl, by first | exact add_e (by omega) | exact add_has0 (by omega) (by assumption) | exact add_new (by omega) (by assumption), .inr ⟨rfl, rfl, (hS.sub [] (by decide) (by first | rfl | simp) (by simp))⟩⟩
  · first | (replace hc92 := of_decide_eq_false hc92) | (replace hc92 := of_decide_eq_true (bnot_f hc92)) | (subst hc92) | (replace hc92 := bnot_f hc92; subst hc92) | (replace hc92 := bnot_f hc92) | skip
    refine wp_skip ?_
    refine then_n ?_
    refine c_seq ?_
    refine c_seq ?_
    refine c_region ?_
    refine seq_yl hF (wn_none rfl) rfl rfl (yl_move hF rfl rfl) ?_
    clear hF; intro a hF
    refine seq_yl hF (wn_none rfl) rfl rfl (yl_move hF rfl rfl) ?_
    clear hF; intro a hF
    refine seq_wp (wn_none rfl) (wp_call (vs := [_, _]) hF rfl rfl rfl rfl cf29 (has_any _ L (t) _ (hS.rdRo 0 rfl) (by first | omega | (simp; done) | (simp; omega))) ?_)
    clear hF; rintro _ w ⟨rfl, hS1⟩ a hF
    replace hS := hS.callB hS1 rfl; clear hS1
    refine wpList_nil ?_
    refine then_n ?_
    refine c_cond hF rfl (fun hc93 => ?_) (fun hc93 => ?_)
    · first | (replace hc93 := of_decide_eq_true hc93) | (replace hc93 := of_decide_eq_false (bnot_t hc93)) | (subst hc93) | (replace hc93 := bnot_t hc93; subst hc93) | (replace hc93 := bnot_t hc93) | skip
      refine c_seq ?_
      refine c_region ?_
      refine seq_yl hF (wn_none rfl) rfl rfl (yl_move hF rfl rfl) ?_
      clear hF; intro a hF
      refine seq_yl hF (wn_none rfl) rfl rfl (yl_assign hF rfl rfl) ?_
      clear hF; intro a hF
      refine seq_yl hF (wn_none rfl) rfl rfl (yl_assign hF rfl rfl) ?_
      clear hF; intro a hF
      refine wpList_nil ?_
      refine then_n ?_
      refine wp_ret ?_
      refine then_r ?_
      refine ret_tt hF rfl rfl rfl ?_
      exact ⟨_, rfl, _, _, _, rfl, by first | exact add_e (by omega) | exact add_has0 (by omega) (by assumption) | exact add_new (by omega) (by assumption), .inr ⟨rfl, rfl, (hS.sub [] (by decide) (by first | rfl | simp) (by simp))⟩⟩
    · first | (replace hc93 := of_decide_eq_false hc93) | (replace hc93 := of_decide_eq_true (bnot_f hc93)) | (subst hc93) | (replace hc93 := bnot_f hc93; subst hc93) | (replace hc93 := bnot_f hc93) | skip
      refine wp_skip ?_
      refine then_n ?_
      refine c_seq ?_
      refine c_region ?_
      refine seq_yl hF (wn_none rfl) rfl rfl (yl_move hF rfl rfl) ?_
      clear hF; intro a hF
      refine seq_wp (wn_none rfl) (wp_app0 (enc := enc44) hF hS rfl rfl rfl rfl rfl sl26 inf44 rfl (by decide) (hS.rdRo 0 rfl) enc44_one (by decide) (by first | omega | (simp only [List.length_append, List.length_cons, List.length_nil]; omega) | (simp; omega)) ?_)
      clear hF hS; intro a w v94 hF hS
      obtain ⟨Av94, cv94, rfl⟩ := hS.form 0 rfl
      refine seq_yl hF (wn_none rfl) rfl rfl (yl_move hF rfl rfl) ?_
      clear hF; intro a hF
      refine seq_yl hF (wn_none rfl) rfl rfl (yl_move hF rfl rfl) ?_
      clear hF; intro a hF
      refine seq_yl hF (wn_none rfl) rfl rfl (yl_build (parts := [(0, .tmp 23), (1, .tmp 24)]) (vs := [(0, _), (1, _)]) (cs := [_, _]) hF bd44 rfl rfl rfl rfl) ?_
      clear hF; intro a hF
      refine seq_wp (wn_none rfl) (wp_bslice (parts := [(0, .tmp 25)]) (vs := [(0, _)]) (enc := enc44) (e := 44) (size := 2) (cs := #[.int .i64 (t), .int .i64 (u)]) hF hS rfl rfl rfl rfl ([(E44.mk (t) (u))] : List E44) (fun w => by kernel_rfl) rfl rfl rfl (by decide) ?_)
      clear hF hS; intro a w v95 hF hS
      obtain ⟨Av95, cv95, rfl⟩ := hS.form 0 rfl
      refine seq_wp (wn_none rfl) (wp_app (enc := enc44) hF hS rfl rfl rfl rfl rfl 1 rfl sl26 inf44 rfl (by decide) (hS.rdRow 0 rfl) enc44_one (by decide) (by first | omega | (simp only [List.length_append, List.length_cons, List.length_nil]; omega) | (simp; omega)) ?_)
      clear hF hS; intro a w v96 hF hS
      obtain ⟨Av96, cv96, rfl⟩ := hS.form 1 rfl
      refine seq_yl hF (wn_none rfl) rfl rfl (yl_assign hF rfl rfl) ?_
      clear hF; intro a hF
      refine seq_yl hF (wn_none rfl) rfl rfl (yl_assign hF rfl rfl) ?_
      clear hF; intro a hF
      refine wpList_nil ?_
      refine then_n ?_
      refine wp_ret ?_
      refine ret_tt hF rfl rfl rfl ?_
      exact ⟨_, rfl, _, _, _, rfl, by first | exact add_e (by omega) | exact add_has0 (by omega) (by assumption) | exact add_new (by omega) (by assumption), .inl (hS.sub [1] (by decide) (by first | rfl | simp) (by simp))⟩

set_option maxRecDepth 100000 in
theorem remove2_any (v0 : Value) (L : List E44) (t : Int) (w0 : World) (hv : Rd w0 2 v0 (L).length (cells enc44 (L))) (hL : L.length ≤ 1000000) :
    Fn Try.prog 12 #[v0, .int .i64 t] w0 (fun v w' => ∃ (v1 : Value) (L1 : List E44) (e : Int), v = .tuple #[v1, .int .i64 e] ∧ remF L t = (L1, e) ∧ (Sat w0 w' [.row 44 2 v1 (L1).length (cells enc44 (L1))] ∨ (v1 = v0 ∧ L1 = L ∧ Sat w0 w' []))) := by
  obtain ⟨Av0, cv0, rfl⟩ := Rd.form hv
  refine c_enter (N := 22) (l := [_, _]) Try.func12 rfl rfl (fun a w hF hS => ?_)
  replace hS := hS.addRo hv
  refine c_seq ?_
  refine c_region ?_
  refine seq_yl hF (wn_none rfl) rfl rfl (yl_assign hF rfl rfl) ?_
  clear hF; intro a hF
  refine seq_yl hF (wn_none rfl) rfl rfl (yl_assign hF rfl rfl) ?_
  clear hF; intro a hF
  refine wpList_nil ?_
  refine then_n ?_
  refine c_seq ?_
  refine c_seq ?_
  refine c_region ?_
  refine seq_yl hF (wn_none rfl) rfl rfl (yl_move hF rfl rfl) ?_
  clear hF; intro a hF
  refine seq_yl hF (wn_none rfl) rfl rfl (yl_move hF rfl rfl) ?_
  clear hF; intro a hF
  refine seq_wp (wn_none rfl) (wp_call (vs := [_, _, _, _]) hF rfl rfl rfl rfl cf28 (refuseF _ L (t) _ (hS.rdRo 0 rfl) (by first | omega | (simp; done) | (simp; omega))) ?_)
  clear hF; rintro _ w ⟨rfl, hS1⟩ a hF
  replace hS := hS.callB hS1 rfl; clear hS1
  refine seq_yl hF (wn_none rfl) rfl rfl (yl_assign hF rfl rfl) ?_
  clear hF; intro a hF
  refine wpList_nil ?_
  refine then_n ?_
  refine c_seq ?_
  refine c_region ?_
  refine seq_yl hF (wn_none rfl) rfl rfl (yl_move hF rfl rfl) ?_
  clear hF; intro a hF
  refine seq_yl hF (wn_none rfl) rfl rfl (yl_bin hF rfl rfl rfl rfl (fun _ => run_neq)) ?_
  clear hF; intro a hF
  refine wpList_nil ?_
  refine then_n ?_
  refine c_cond hF rfl (fun hc97 => ?_) (fun hc97 => ?_)
  · first | (replace hc97 := of_decide_eq_true hc97) | (replace hc97 := of_decide_eq_false (bnot_t hc97)) | (subst hc97) | (replace hc97 := bnot_t hc97; subst hc97) | (replace hc97 := bnot_t hc97) | skip
    refine c_seq ?_
    refine c_region ?_
    refine seq_yl hF (wn_none rfl) rfl rfl (yl_move hF rfl rfl) ?_
    clear hF; intro a hF
    refine seq_yl hF (wn_none rfl) rfl rfl (yl_move hF rfl rfl) ?_
    clear hF; intro a hF
    refine seq_yl hF (wn_none rfl) rfl rfl (yl_assign hF rfl rfl) ?_
    clear hF; intro a hF
    refine seq_yl hF (wn_none rfl) rfl rfl (yl_assign hF rfl rfl) ?_
    clear hF; intro a hF
    refine wpList_nil ?_
    refine then_n ?_
    refine wp_ret ?_
    refine then_r ?_
    refine ret_tt hF rfl rfl rfl ?_
    exact ⟨_, rfl, _, _, _, rfl, by first | exact rem_e (by omega) | exact rem_no (by omega) (by assumption) | exact rem_has (by omega) (by assumption), .inr ⟨rfl, rfl, (hS.sub [] (by decide) (by first | rfl | simp) (by simp))⟩⟩
  · first | (replace hc97 := of_decide_eq_false hc97) | (replace hc97 := of_decide_eq_true (bnot_f hc97)) | (subst hc97) | (replace hc97 := bnot_f hc97; subst hc97) | (replace hc97 := bnot_f hc97) | skip
    refine wp_skip ?_
    refine then_n ?_
    refine c_seq ?_
    refine c_seq ?_
    refine c_region ?_
    refine seq_yl hF (wn_none rfl) rfl rfl (yl_move hF rfl rfl) ?_
    clear hF; intro a hF
    refine seq_yl hF (wn_none rfl) rfl rfl (yl_move hF rfl rfl) ?_
    clear hF; intro a hF
    refine seq_wp (wn_none rfl) (wp_call (vs := [_, _]) hF rfl rfl rfl rfl cf29 (has_any _ L (t) _ (hS.rdRo 0 rfl) (by first | omega | (simp; done) | (simp; omega))) ?_)
    clear hF; rintro _ w ⟨rfl, hS1⟩ a hF
    replace hS := hS.callB hS1 rfl; clear hS1
    refine seq_yl hF (wn_none rfl) rfl rfl (yl_un hF rfl rfl (fun _ => run_not)) ?_
    clear hF; intro a hF
    refine wpList_nil ?_
    refine then_n ?_
    refine c_cond hF rfl (fun hc98 => ?_) (fun hc98 => ?_)
    · first | (replace hc98 := of_decide_eq_true hc98) | (replace hc98 := of_decide_eq_false (bnot_t hc98)) | (subst hc98) | (replace hc98 := bnot_t hc98; subst hc98) | (replace hc98 := bnot_t hc98) | skip
      refine c_seq ?_
      refine c_region ?_
      refine seq_yl hF (wn_none rfl) rfl rfl (yl_move hF rfl rfl) ?_
      clear hF; intro a hF
      refine seq_yl hF (wn_none rfl) rfl rfl (yl_assign hF rfl rfl) ?_
      clear hF; intro a hF
      refine seq_yl hF (wn_none rfl) rfl rfl (yl_assign hF rfl rfl) ?_
      clear hF; intro a hF
      refine wpList_nil ?_
      refine then_n ?_
      refine wp_ret ?_
      refine then_r ?_
      refine ret_tt hF rfl rfl rfl ?_
      exact ⟨_, rfl, _, _, _, rfl, by first | exact rem_e (by omega) | exact rem_no (by omega) (by assumption) | exact rem_has (by omega) (by assumption), .inr ⟨rfl, rfl, (hS.sub [] (by decide) (by first | rfl | simp) (by simp))⟩⟩
    · first | (replace hc98 := of_decide_eq_false hc98) | (replace hc98 := of_decide_eq_true (bnot_f hc98)) | (subst hc98) | (replace hc98 := bnot_f hc98; subst hc98) | (replace hc98 := bnot_f hc98) | skip
      refine wp_skip ?_
      refine then_n ?_
      refine c_seq ?_
      refine c_region ?_
      refine seq_yl hF (wn_none rfl) rfl rfl (yl_move hF rfl rfl) ?_
      clear hF; intro a hF
      refine seq_yl hF (wn_none rfl) rfl rfl (yl_move hF rfl rfl) ?_
      clear hF; intro a hF
      have hrl := remL_len L (t)
      refine seq_wp (wn_none rfl) (wp_call (vs := [_, _]) hF rfl rfl rfl rfl cf32 (without_any _ L (t) _ (hS.rdRo 0 rfl) (by first | omega | (simp; done) | (simp; omega))) ?_)
      clear hF; rintro _ w ⟨v99, rfl, hS1⟩ a hF
      replace hS := hS.callB hS1 rfl; clear hS1
      obtain ⟨Av99, cv99, rfl⟩ := hS.form 0 rfl
      refine seq_yl hF (wn_none rfl) rfl rfl (yl_assign hF rfl rfl) ?_
      clear hF; intro a hF
      refine seq_yl hF (wn_none rfl) rfl rfl (yl_assign hF rfl rfl) ?_
      clear hF; intro a hF
      refine wpList_nil ?_
      refine then_n ?_
      refine wp_ret ?_
      refine ret_tt hF rfl rfl rfl ?_
      exact ⟨_, rfl, _, _, _, rfl, by first | exact rem_e (by omega) | exact rem_no (by omega) (by assumption) | exact rem_has (by omega) (by assumption), .inl (hS.sub [0] (by decide) (by first | rfl | simp) (by simp))⟩

set_option maxRecDepth 100000 in
theorem again2_any (v0 : Value) (L : List E44) (t u : Int) (w0 : World) (hv : Rd w0 2 v0 (L).length (cells enc44 (L))) (hL : L.length ≤ 1000000) :
    Fn Try.prog 14 #[v0, .int .i64 t, .int .i64 u] w0 (fun v w' => ∃ (v1 : Value) (L1 : List E44) (e : Int), v = .tuple #[v1, .int .i64 e] ∧ againF L t u = (L1, e) ∧ (Sat w0 w' [.row 44 2 v1 (L1).length (cells enc44 (L1))] ∨ (v1 = v0 ∧ L1 = L ∧ Sat w0 w' []))) := by
  obtain ⟨Av0, cv0, rfl⟩ := Rd.form hv
  refine c_enter (N := 30) (l := [_, _, _]) Try.func14 rfl rfl (fun a w hF hS => ?_)
  replace hS := hS.addRo hv
  refine c_seq ?_
  refine c_region ?_
  refine seq_yl hF (wn_none rfl) rfl rfl (yl_assign hF rfl rfl) ?_
  clear hF; intro a hF
  refine seq_yl hF (wn_none rfl) rfl rfl (yl_assign hF rfl rfl) ?_
  clear hF; intro a hF
  refine wpList_nil ?_
  refine then_n ?_
  refine c_seq ?_
  refine c_seq ?_
  refine c_region ?_
  refine seq_yl hF (wn_none rfl) rfl rfl (yl_move hF rfl rfl) ?_
  clear hF; intro a hF
  refine seq_yl hF (wn_none rfl) rfl rfl (yl_move hF rfl rfl) ?_
  clear hF; intro a hF
  refine seq_yl hF (wn_none rfl) rfl rfl (yl_move hF rfl rfl) ?_
  clear hF; intro a hF
  refine seq_wp (wn_none rfl) (wp_call (vs := [_, _, _, _]) hF rfl rfl rfl rfl cf28 (refuseT _ L (t) (u) _ (hS.rdRo 0 rfl) (by first | omega | (simp; done) | (simp; omega))) ?_)
  clear hF; rintro _ w ⟨rfl, hS1⟩ a hF
  replace hS := hS.callB hS1 rfl; clear hS1
  refine seq_yl hF (wn_none rfl) rfl rfl (yl_assign hF rfl rfl) ?_
  clear hF; intro a hF
  refine wpList_nil ?_
  refine then_n ?_
  refine c_seq ?_
  refine c_region ?_
  refine seq_yl hF (wn_none rfl) rfl rfl (yl_move hF rfl rfl) ?_
  clear hF; intro a hF
  refine seq_yl hF (wn_none rfl) rfl rfl (yl_bin hF rfl rfl rfl rfl (fun _ => run_neq)) ?_
  clear hF; intro a hF
  refine wpList_nil ?_
  refine then_n ?_
  refine c_cond hF rfl (fun hc100 => ?_) (fun hc100 => ?_)
  · first | (replace hc100 := of_decide_eq_true hc100) | (replace hc100 := of_decide_eq_false (bnot_t hc100)) | (subst hc100) | (replace hc100 := bnot_t hc100; subst hc100) | (replace hc100 := bnot_t hc100) | skip
    refine c_seq ?_
    refine c_region ?_
    refine seq_yl hF (wn_none rfl) rfl rfl (yl_move hF rfl rfl) ?_
    clear hF; intro a hF
    refine seq_yl hF (wn_none rfl) rfl rfl (yl_move hF rfl rfl) ?_
    clear hF; intro a hF
    refine seq_yl hF (wn_none rfl) rfl rfl (yl_assign hF rfl rfl) ?_
    clear hF; intro a hF
    refine seq_yl hF (wn_none rfl) rfl rfl (yl_assign hF rfl rfl) ?_
    clear hF; intro a hF
    refine wpList_nil ?_
    refine then_n ?_
    refine wp_ret ?_
    refine then_r ?_
    refine ret_tt hF rfl rfl rfl ?_
    exact ⟨_, rfl, _, _, _, rfl, by first | exact ag_e (by omega) | exact ag_no (by omega) (by assumption) | exact ag_yes (by omega) (by assumption), .inr ⟨rfl, rfl, (hS.sub [] (by decide) (by first | rfl | simp) (by simp))⟩⟩
  · first | (replace hc100 := of_decide_eq_false hc100) | (replace hc100 := of_decide_eq_true (bnot_f hc100)) | (subst hc100) | (replace hc100 := bnot_f hc100; subst hc100) | (replace hc100 := bnot_f hc100) | skip
    refine wp_skip ?_
    refine then_n ?_
    refine c_seq ?_
    refine c_seq ?_
    refine c_region ?_
    refine seq_yl hF (wn_none rfl) rfl rfl (yl_move hF rfl rfl) ?_
    clear hF; intro a hF
    refine seq_yl hF (wn_none rfl) rfl rfl (yl_move hF rfl rfl) ?_
    clear hF; intro a hF
    refine seq_wp (wn_none rfl) (wp_call (vs := [_, _]) hF rfl rfl rfl rfl cf29 (has_any _ L (t) _ (hS.rdRo 0 rfl) (by first | omega | (simp; done) | (simp; omega))) ?_)
    clear hF; rintro _ w ⟨rfl, hS1⟩ a hF
    replace hS := hS.callB hS1 rfl; clear hS1
    refine seq_yl hF (wn_none rfl) rfl rfl (yl_un hF rfl rfl (fun _ => run_not)) ?_
    clear hF; intro a hF
    refine wpList_nil ?_
    refine then_n ?_
    refine c_cond hF rfl (fun hc101 => ?_) (fun hc101 => ?_)
    · first | (replace hc101 := of_decide_eq_true hc101) | (replace hc101 := of_decide_eq_false (bnot_t hc101)) | (subst hc101) | (replace hc101 := bnot_t hc101; subst hc101) | (replace hc101 := bnot_t hc101) | skip
      refine c_seq ?_
      refine c_region ?_
      refine seq_yl hF (wn_none rfl) rfl rfl (yl_move hF rfl rfl) ?_
      clear hF; intro a hF
      refine seq_yl hF (wn_none rfl) rfl rfl (yl_assign hF rfl rfl) ?_
      clear hF; intro a hF
      refine seq_yl hF (wn_none rfl) rfl rfl (yl_assign hF rfl rfl) ?_
      clear hF; intro a hF
      refine wpList_nil ?_
      refine then_n ?_
      refine wp_ret ?_
      refine then_r ?_
      refine ret_tt hF rfl rfl rfl ?_
      exact ⟨_, rfl, _, _, _, rfl, by first | exact ag_e (by omega) | exact ag_no (by omega) (by assumption) | exact ag_yes (by omega) (by assumption), .inr ⟨rfl, rfl, (hS.sub [] (by decide) (by first | rfl | simp) (by simp))⟩⟩
    · first | (replace hc101 := of_decide_eq_false hc101) | (replace hc101 := of_decide_eq_true (bnot_f hc101)) | (subst hc101) | (replace hc101 := bnot_f hc101; subst hc101) | (replace hc101 := bnot_f hc101) | skip
      refine wp_skip ?_
      refine then_n ?_
      refine c_seq ?_
      refine c_region ?_
      refine seq_yl hF (wn_none rfl) rfl rfl (yl_move hF rfl rfl) ?_
      clear hF; intro a hF
      refine seq_yl hF (wn_none rfl) rfl rfl (yl_move hF rfl rfl) ?_
      clear hF; intro a hF
      have hrl := remL_len L (t)
      refine seq_wp (wn_none rfl) (wp_call (vs := [_, _]) hF rfl rfl rfl rfl cf32 (without_any _ L (t) _ (hS.rdRo 0 rfl) (by first | omega | (simp; done) | (simp; omega))) ?_)
      clear hF; rintro _ w ⟨v102, rfl, hS1⟩ a hF
      replace hS := hS.callB hS1 rfl; clear hS1
      obtain ⟨Av102, cv102, rfl⟩ := hS.form 0 rfl
      refine seq_yl hF (wn_none rfl) rfl rfl (yl_move hF rfl rfl) ?_
      clear hF; intro a hF
      refine seq_yl hF (wn_none rfl) rfl rfl (yl_move hF rfl rfl) ?_
      clear hF; intro a hF
      refine seq_yl hF (wn_none rfl) rfl rfl (yl_build (parts := [(0, .tmp 25), (1, .tmp 26)]) (vs := [(0, _), (1, _)]) (cs := [_, _]) hF bd44 rfl rfl rfl rfl) ?_
      clear hF; intro a hF
      refine seq_wp (wn_none rfl) (wp_bslice (parts := [(0, .tmp 27)]) (vs := [(0, _)]) (enc := enc44) (e := 44) (size := 2) (cs := #[.int .i64 (t), .int .i64 (u)]) hF hS rfl rfl rfl rfl ([(E44.mk (t) (u))] : List E44) (fun w => by kernel_rfl) rfl rfl rfl (by decide) ?_)
      clear hF hS; intro a w v103 hF hS
      obtain ⟨Av103, cv103, rfl⟩ := hS.form 0 rfl
      refine seq_wp (wn_none rfl) (wp_app (enc := enc44) hF hS rfl rfl rfl rfl rfl 1 rfl sl26 inf44 rfl (by decide) (hS.rdRow 0 rfl) enc44_one (by decide) (by first | omega | (simp only [List.length_append, List.length_cons, List.length_nil]; omega) | (simp; omega)) ?_)
      clear hF hS; intro a w v104 hF hS
      obtain ⟨Av104, cv104, rfl⟩ := hS.form 1 rfl
      refine seq_yl hF (wn_none rfl) rfl rfl (yl_assign hF rfl rfl) ?_
      clear hF; intro a hF
      refine seq_yl hF (wn_none rfl) rfl rfl (yl_assign hF rfl rfl) ?_
      clear hF; intro a hF
      refine wpList_nil ?_
      refine then_n ?_
      refine wp_ret ?_
      refine ret_tt hF rfl rfl rfl ?_
      exact ⟨_, rfl, _, _, _, rfl, by first | exact ag_e (by omega) | exact ag_no (by omega) (by assumption) | exact ag_yes (by omega) (by assumption), .inl (hS.sub [1] (by decide) (by first | rfl | simp) (by simp))⟩

end Go.Proofs.Ytffaminjbcfojaa

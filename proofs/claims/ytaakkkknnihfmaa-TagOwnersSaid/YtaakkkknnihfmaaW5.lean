/- walks, printed by wip/gen -/
import Derived.Test.YtaakkkknnihfmaaW4
import Derived.Test.YtaakkkknnihfmaaW2
namespace Go.Proofs.Ytaakkkknnihfmaa
open Go.RowKit
set_option linter.unusedVariables false
set_option linter.unusedSimpArgs false

set_option maxRecDepth 100000 in
theorem sameT (v u : Value) (L M : List Int) (r c p q : Int) (w0 : World) (hv : Rd w0 1 v (L).length (cells encI (L))) (hu : Rd w0 1 u (M).length (cells encI (M))) (hL : L.length ≤ 1000000) (hM : M.length ≤ 1000000) :
    Fn Try.prog 20 #[.agg #[v, .int .i64 r, .int .i64 c], .agg #[u, .int .i64 p, .int .i64 q]] w0 (fun v w' => v = .bool (decide (L = M ∧ r = p ∧ c = q)) ∧ Sat w0 w' []) := by
  obtain ⟨Av, cv, rfl⟩ := Rd.form hv
  obtain ⟨Au, cu, rfl⟩ := Rd.form hu
  refine c_enter (N := 24) (l := [_, _]) Try.func20 rfl rfl (fun a w hF hS => ?_)
  replace hS := hS.addRo hu
  replace hS := hS.addRo hv
  refine c_seq ?_
  refine c_region ?_
  refine seq_wp (wn_none rfl) (wp_box (cs := #[_, _, _]) hF hS rfl rfl rfl rfl rfl ?_)
  clear hF hS; intro a w g142 hF hS
  refine seq_wp (wn_none rfl) (wp_box (cs := #[_, _, _]) hF hS rfl rfl rfl rfl rfl ?_)
  clear hF hS; intro a w g143 hF hS
  refine seq_yl hF (wn_none rfl) rfl rfl (yl_assign hF rfl rfl) ?_
  clear hF; intro a hF
  refine wpList_nil ?_
  refine then_n ?_
  refine c_seq ?_
  refine c_region ?_
  refine seq_yl hF (wn_none rfl) rfl rfl (yl_fieldAddr hF rfl rfl (fun w => by kernel_rfl : ∀ w, (Instr.fieldAt 24 (.pointer (some ⟨g142, 0, none⟩)) 0).run Try.prog w = .ok (.pointer (some ⟨g142, 0, none⟩)) w)) ?_
  clear hF; intro a hF
  refine seq_yl hF (wn_none rfl) rfl rfl (yl_load (fun _ h => h ▸ hS) hF rfl rfl 1 rfl ag22 rfl) ?_
  clear hF; intro a hF
  refine seq_yl hF (wn_none rfl) rfl rfl (yl_fieldAddr hF rfl rfl (fun w => by kernel_rfl : ∀ w, (Instr.fieldAt 24 (.pointer (some ⟨g143, 0, none⟩)) 0).run Try.prog w = .ok (.pointer (some ⟨g143, 0, none⟩)) w)) ?_
  clear hF; intro a hF
  refine seq_yl hF (wn_none rfl) rfl rfl (yl_load (fun _ h => h ▸ hS) hF rfl rfl 0 rfl ag22 rfl) ?_
  clear hF; intro a hF
  refine seq_wp (wn_none rfl) (wp_call (vs := [_, _]) hF rfl rfl rfl rfl cf31 (sameI_any _ _ L M _ (hS.rdRo 2 rfl) (hS.rdRo 3 rfl) (by first | omega | (simp; done) | (simp; omega))) ?_)
  clear hF; rintro _ w ⟨rfl, hS1⟩ a hF
  replace hS := hS.callB hS1 rfl; clear hS1
  refine seq_yl hF (wn_none rfl) rfl rfl (yl_move hF rfl rfl) ?_
  clear hF; intro a hF
  refine fr_split hF (fun hc144 hF => ?_) (fun hc144 hF => ?_)
  · first | (replace hc144 := of_decide_eq_true hc144) | (replace hc144 := of_decide_eq_false (bnot_t hc144)) | (subst hc144) | (replace hc144 := bnot_t hc144; subst hc144) | (replace hc144 := bnot_t hc144) | skip
    refine seq_yl hF (wn_t hF rfl rfl rfl rfl) rfl rfl (yl_fieldAddr hF rfl rfl (fun w => by kernel_rfl : ∀ w, (Instr.fieldAt 24 (.pointer (some ⟨g142, 0, none⟩)) 1).run Try.prog w = .ok (.pointer (some ⟨g142, 1, none⟩)) w)) ?_
    clear hF; intro a hF
    refine seq_yl hF (wn_t hF rfl rfl rfl rfl) rfl rfl (yl_load (fun _ h => h ▸ hS) hF rfl rfl 1 rfl ag3 rfl) ?_
    clear hF; intro a hF
    refine seq_yl hF (wn_t hF rfl rfl rfl rfl) rfl rfl (yl_fieldAddr hF rfl rfl (fun w => by kernel_rfl : ∀ w, (Instr.fieldAt 24 (.pointer (some ⟨g143, 0, none⟩)) 1).run Try.prog w = .ok (.pointer (some ⟨g143, 1, none⟩)) w)) ?_
    clear hF; intro a hF
    refine seq_yl hF (wn_t hF rfl rfl rfl rfl) rfl rfl (yl_load (fun _ h => h ▸ hS) hF rfl rfl 0 rfl ag3 rfl) ?_
    clear hF; intro a hF
    refine seq_yl hF (wn_t hF rfl rfl rfl rfl) rfl rfl (yl_bin hF rfl rfl rfl rfl (fun _ => run_eql)) ?_
    clear hF; intro a hF
    refine seq_yl hF (wn_none rfl) rfl rfl (yl_pick (u := _) (v := undef) hF rfl rfl (fun _ => rfl) (fun h => by cases h)) ?_
    clear hF; intro a hF
    refine seq_yl hF (wn_none rfl) rfl rfl (yl_move hF rfl rfl) ?_
    clear hF; intro a hF
    refine fr_split hF (fun hc145 hF => ?_) (fun hc145 hF => ?_)
    · first | (replace hc145 := of_decide_eq_true hc145) | (replace hc145 := of_decide_eq_false (bnot_t hc145)) | (subst hc145) | (replace hc145 := bnot_t hc145; subst hc145) | (replace hc145 := bnot_t hc145) | skip
      refine seq_yl hF (wn_t hF rfl rfl rfl rfl) rfl rfl (yl_fieldAddr hF rfl rfl (fun w => by kernel_rfl : ∀ w, (Instr.fieldAt 24 (.pointer (some ⟨g142, 0, none⟩)) 2).run Try.prog w = .ok (.pointer (some ⟨g142, 2, none⟩)) w)) ?_
      clear hF; intro a hF
      refine seq_yl hF (wn_t hF rfl rfl rfl rfl) rfl rfl (yl_load (fun _ h => h ▸ hS) hF rfl rfl 1 rfl ag3 rfl) ?_
      clear hF; intro a hF
      refine seq_yl hF (wn_t hF rfl rfl rfl rfl) rfl rfl (yl_fieldAddr hF rfl rfl (fun w => by kernel_rfl : ∀ w, (Instr.fieldAt 24 (.pointer (some ⟨g143, 0, none⟩)) 2).run Try.prog w = .ok (.pointer (some ⟨g143, 2, none⟩)) w)) ?_
      clear hF; intro a hF
      refine seq_yl hF (wn_t hF rfl rfl rfl rfl) rfl rfl (yl_load (fun _ h => h ▸ hS) hF rfl rfl 0 rfl ag3 rfl) ?_
      clear hF; intro a hF
      refine seq_yl hF (wn_t hF rfl rfl rfl rfl) rfl rfl (yl_bin hF rfl rfl rfl rfl (fun _ => run_eql)) ?_
      clear hF; intro a hF
      refine seq_yl hF (wn_none rfl) rfl rfl (yl_pick (u := _) (v := undef) hF rfl rfl (fun _ => rfl) (fun h => by cases h)) ?_
      clear hF; intro a hF
      refine seq_yl hF (wn_none rfl) rfl rfl (yl_assign hF rfl rfl) ?_
      clear hF; intro a hF
      refine wpList_nil ?_
      refine then_n ?_
      refine wp_ret ?_
      refine ret_t hF rfl rfl ?_
      exact ⟨_, rfl, congrArg Value.bool (dec_d (by constructor <;> intro h9 <;> first | exact ⟨by assumption, by omega, by omega⟩ | exact h9.2.2 | omega)), (hS.sub [] (by decide) (by first | rfl | simp) (by simp))⟩
    · first | (replace hc145 := of_decide_eq_false hc145) | (replace hc145 := of_decide_eq_true (bnot_f hc145)) | (subst hc145) | (replace hc145 := bnot_f hc145; subst hc145) | (replace hc145 := bnot_f hc145) | skip
      refine seq_skip hF (wn_f hF rfl rfl rfl rfl) rfl rfl ?_
      clear hF; intro a hF
      refine seq_skip hF (wn_f hF rfl rfl rfl rfl) rfl rfl ?_
      clear hF; intro a hF
      refine seq_skip hF (wn_f hF rfl rfl rfl rfl) rfl rfl ?_
      clear hF; intro a hF
      refine seq_skip hF (wn_f hF rfl rfl rfl rfl) rfl rfl ?_
      clear hF; intro a hF
      refine seq_skip hF (wn_f hF rfl rfl rfl rfl) rfl rfl ?_
      clear hF; intro a hF
      refine seq_yl hF (wn_none rfl) rfl rfl (yl_pick (u := _) (v := undef) hF rfl rfl (fun h => by cases h) (fun _ => rfl)) ?_
      clear hF; intro a hF
      refine seq_yl hF (wn_none rfl) rfl rfl (yl_assign hF rfl rfl) ?_
      clear hF; intro a hF
      refine wpList_nil ?_
      refine then_n ?_
      refine wp_ret ?_
      refine ret_t hF rfl rfl ?_
      exact ⟨_, rfl, congrArg Value.bool (dec_f (fun h9 => by obtain ⟨h1, h2, h3⟩ := h9; first | exact absurd h1 (by assumption) | omega)), (hS.sub [] (by decide) (by first | rfl | simp) (by simp))⟩
  · first | (replace hc144 := of_decide_eq_false hc144) | (replace hc144 := of_decide_eq_true (bnot_f hc144)) | (subst hc144) | (replace hc144 := bnot_f hc144; subst hc144) | (replace hc144 := bnot_f hc144) | skip
    refine seq_skip hF (wn_f hF rfl rfl rfl rfl) rfl rfl ?_
    clear hF; intro a hF
    refine seq_skip hF (wn_f hF rfl rfl rfl rfl) rfl rfl ?_
    clear hF; intro a hF
    refine seq_skip hF (wn_f hF rfl rfl rfl rfl) rfl rfl ?_
    clear hF; intro a hF
    refine seq_skip hF (wn_f hF rfl rfl rfl rfl) rfl rfl ?_
    clear hF; intro a hF
    refine seq_skip hF (wn_f hF rfl rfl rfl rfl) rfl rfl ?_
    clear hF; intro a hF
    refine seq_yl hF (wn_none rfl) rfl rfl (yl_pick (u := _) (v := undef) hF rfl rfl (fun h => by cases h) (fun _ => rfl)) ?_
    clear hF; intro a hF
    refine seq_yl hF (wn_none rfl) rfl rfl (yl_move hF rfl rfl) ?_
    clear hF; intro a hF
    refine seq_skip hF (wn_f hF rfl rfl rfl rfl) rfl rfl ?_
    clear hF; intro a hF
    refine seq_skip hF (wn_f hF rfl rfl rfl rfl) rfl rfl ?_
    clear hF; intro a hF
    refine seq_skip hF (wn_f hF rfl rfl rfl rfl) rfl rfl ?_
    clear hF; intro a hF
    refine seq_skip hF (wn_f hF rfl rfl rfl rfl) rfl rfl ?_
    clear hF; intro a hF
    refine seq_skip hF (wn_f hF rfl rfl rfl rfl) rfl rfl ?_
    clear hF; intro a hF
    refine seq_yl hF (wn_none rfl) rfl rfl (yl_pick (u := _) (v := undef) hF rfl rfl (fun h => by cases h) (fun _ => rfl)) ?_
    clear hF; intro a hF
    refine seq_yl hF (wn_none rfl) rfl rfl (yl_assign hF rfl rfl) ?_
    clear hF; intro a hF
    refine wpList_nil ?_
    refine then_n ?_
    refine wp_ret ?_
    refine ret_t hF rfl rfl ?_
    exact ⟨_, rfl, congrArg Value.bool (dec_f (fun h9 => by obtain ⟨h1, h2, h3⟩ := h9; first | exact absurd h1 (by assumption) | omega)), (hS.sub [] (by decide) (by first | rfl | simp) (by simp))⟩

set_option maxRecDepth 100000 in
theorem new1 (n r c : Int) (w0 : World) :
    Fn Try.prog 13 #[.int .i64 n, .int .i64 r, .int .i64 c] w0 (fun v w' => ∃ (v1 : Value) (L1 : List Int) (r1 c1 : Int) (b : Bool), v = .tuple #[.agg #[v1, .int .i64 r1, .int .i64 c1], .bool b] ∧ newF n r c = (⟨L1, r1, c1⟩, b) ∧ Sat w0 w' [.row 3 1 v1 (L1).length (cells encI (L1))]) := by
  refine c_enter (N := 27) (l := [_, _, _]) Try.func13 rfl rfl (fun a w hF hS => ?_)
  refine c_seq ?_
  refine c_region ?_
  refine seq_wp (wn_none rfl) (wp_alloc (cs := #[_, _, _]) hF hS rfl rfl rfl zr24 rfl ?_)
  clear hF hS; intro a w g146 hF hS
  refine seq_yl hF (wn_none rfl) rfl rfl (yl_assign hF rfl rfl) ?_
  clear hF; intro a hF
  refine wpList_nil ?_
  refine then_n ?_
  refine c_seq ?_
  refine c_seq ?_
  refine c_region ?_
  refine seq_yl hF (wn_none rfl) rfl rfl (yl_move hF rfl rfl) ?_
  clear hF; intro a hF
  refine seq_yl hF (wn_none rfl) rfl rfl (yl_bin hF rfl rfl rfl rfl (fun _ => run_lss)) ?_
  clear hF; intro a hF
  refine seq_yl hF (wn_none rfl) rfl rfl (yl_move hF rfl rfl) ?_
  clear hF; intro a hF
  refine fr_split hF (fun hc147 hF => ?_) (fun hc147 hF => ?_)
  · first | (replace hc147 := of_decide_eq_true hc147) | (replace hc147 := of_decide_eq_false (bnot_t hc147)) | (subst hc147) | (replace hc147 := bnot_t hc147; subst hc147) | (replace hc147 := bnot_t hc147) | skip
    refine seq_skip hF (wn_f hF rfl rfl rfl rfl) rfl rfl ?_
    clear hF; intro a hF
    refine seq_skip hF (wn_f hF rfl rfl rfl rfl) rfl rfl ?_
    clear hF; intro a hF
    refine seq_yl hF (wn_none rfl) rfl rfl (yl_pick (u := _) (v := undef) hF rfl rfl (fun _ => rfl) (fun h => by cases h)) ?_
    clear hF; intro a hF
    refine wpList_nil ?_
    refine then_n ?_
    refine c_cond_t hF rfl ?_
    refine c_seq ?_
    refine c_region ?_
    refine seq_yl hF (wn_none rfl) rfl rfl (yl_build (parts := []) (vs := []) (cs := [_, _, _]) hF bd24 rfl rfl rfl rfl) ?_
    clear hF; intro a hF
    refine seq_wp (wn_none rfl) (wp_store (cs' := #[_, _, _]) hF hS rfl rfl rfl rfl 0 rfl sz24 (by simp [Value.cells, Value.oneCell']) (by simp [Value.cells]) rfl ?_)
    clear hF hS; intro a w hF hS
    refine seq_yl hF (wn_none rfl) rfl rfl (yl_assign hF rfl rfl) ?_
    clear hF; intro a hF
    refine wpList_nil ?_
    refine then_n ?_
    refine wp_ret ?_
    refine then_r ?_
    refine ret_ct hF rfl (resC hS rfl 0 rfl ag24 sz24) rfl ?_
    replace hS := hS.addNil 3 1
    exact ⟨_, rfl, _, _, _, _, _, rfl, by first | exact new_no1 (by omega) | exact new_no2 (show List.replicate n9 (-1 : Int) = List.replicate n.toNat (-1) by rw [show n9 = n.toNat by omega]) (by assumption), (hS.sub [0] (by decide) (by first | rfl | simp) (by simp))⟩
  · first | (replace hc147 := of_decide_eq_false hc147) | (replace hc147 := of_decide_eq_true (bnot_f hc147)) | (subst hc147) | (replace hc147 := bnot_f hc147; subst hc147) | (replace hc147 := bnot_f hc147) | skip
    refine seq_yl hF (wn_t hF rfl rfl rfl rfl) rfl rfl (yl_move hF rfl rfl) ?_
    clear hF; intro a hF
    refine seq_yl hF (wn_t hF rfl rfl rfl rfl) rfl rfl (yl_bin hF rfl rfl rfl rfl (fun _ => run_gtr)) ?_
    clear hF; intro a hF
    refine seq_yl hF (wn_none rfl) rfl rfl (yl_pick (u := _) (v := undef) hF rfl rfl (fun h => by cases h) (fun _ => rfl)) ?_
    clear hF; intro a hF
    refine wpList_nil ?_
    refine then_n ?_
    refine c_cond hF rfl (fun hc149 => ?_) (fun hc149 => ?_)
    · first | (replace hc149 := of_decide_eq_true hc149) | (replace hc149 := of_decide_eq_false (bnot_t hc149)) | (subst hc149) | (replace hc149 := bnot_t hc149; subst hc149) | (replace hc149 := bnot_t hc149) | skip
      refine c_seq ?_
      refine c_region ?_
      refine seq_yl hF (wn_none rfl) rfl rfl (yl_build (parts := []) (vs := []) (cs := [_, _, _]) hF bd24 rfl rfl rfl rfl) ?_
      clear hF; intro a hF
      refine seq_wp (wn_none rfl) (wp_store (cs' := #[_, _, _]) hF hS rfl rfl rfl rfl 0 rfl sz24 (by simp [Value.cells, Value.oneCell']) (by simp [Value.cells]) rfl ?_)
      clear hF hS; intro a w hF hS
      refine seq_yl hF (wn_none rfl) rfl rfl (yl_assign hF rfl rfl) ?_
      clear hF; intro a hF
      refine wpList_nil ?_
      refine then_n ?_
      refine wp_ret ?_
      refine then_r ?_
      refine ret_ct hF rfl (resC hS rfl 0 rfl ag24 sz24) rfl ?_
      replace hS := hS.addNil 3 1
      exact ⟨_, rfl, _, _, _, _, _, rfl, by first | exact new_no1 (by omega) | exact new_no2 (show List.replicate n9 (-1 : Int) = List.replicate n.toNat (-1) by rw [show n9 = n.toNat by omega]) (by assumption), (hS.sub [0] (by decide) (by first | rfl | simp) (by simp))⟩
    · first | (replace hc149 := of_decide_eq_false hc149) | (replace hc149 := of_decide_eq_true (bnot_f hc149)) | (subst hc149) | (replace hc149 := bnot_f hc149; subst hc149) | (replace hc149 := bnot_f hc149) | skip
      refine wp_skip ?_
      refine then_n ?_
      refine c_seq ?_
      refine c_region ?_
      obtain ⟨n9, hn9⟩ : ∃ n9 : Nat, n = (n9 : Int) := ⟨n.toNat, by omega⟩
      refine seq_wp (wn_none rfl) (wp_bslice (parts := [(0, .const (Go.Value.int Go.IntKind.i64 (-1)))]) (vs := [(0, _)]) (enc := encI) (e := 3) (size := 1) (cs := #[.int .i64 (-1 : Int)]) hF hS rfl rfl rfl rfl ([(-1 : Int)] : List Int) (fun w => by kernel_rfl) rfl rfl rfl (by decide) ?_)
      clear hF hS; intro a w v151 hF hS
      obtain ⟨Av151, cv151, rfl⟩ := hS.form 0 rfl
      refine seq_yl hF (wn_none rfl) rfl rfl (yl_move hF rfl rfl) ?_
      clear hF; intro a hF
      replace hF := fr_seti (b' := ((n9 : Nat) : Int)) hF (hn9)
      refine seq_wp (wn_none rfl) (wp_call (vs := [_, _]) hF rfl rfl rfl rfl cf27 (repeat_any _ (-1 : Int) n9 _ (hS.rdRow 0 rfl) (by omega)) ?_)
      clear hF; rintro _ w ⟨v152, rfl, hS1⟩ a hF
      replace hS := hS.callB hS1 rfl; clear hS1
      obtain ⟨Av152, cv152, rfl⟩ := hS.form 0 rfl
      refine seq_yl hF (wn_none rfl) rfl rfl (yl_move hF rfl rfl) ?_
      clear hF; intro a hF
      refine seq_yl hF (wn_none rfl) rfl rfl (yl_move hF rfl rfl) ?_
      clear hF; intro a hF
      refine seq_yl hF (wn_none rfl) rfl rfl (yl_build (parts := [(0, .tmp 18), (1, .tmp 19), (2, .tmp 20)]) (vs := [(0, _), (1, _), (2, _)]) (cs := [_, _, _]) hF bd24 rfl rfl rfl rfl) ?_
      clear hF; intro a hF
      refine seq_wp (wn_none rfl) (wp_alloc (cs := #[_, _, _]) hF hS rfl rfl rfl zr24 rfl ?_)
      clear hF hS; intro a w g153 hF hS
      refine seq_wp (wn_none rfl) (wp_store (cs' := #[_, _, _]) hF hS rfl rfl rfl rfl 0 rfl sz24 (by simp [Value.cells, Value.oneCell']) (by simp [Value.cells]) rfl ?_)
      clear hF hS; intro a w hF hS
      refine wpList_nil ?_
      refine then_n ?_
      refine c_seq ?_
      refine c_seq ?_
      refine c_region ?_
      refine seq_yl hF (wn_none rfl) rfl rfl (yl_loadK (rs := [_, _, _]) (fun _ h => h ▸ hS) hF rfl rfl 0 rfl ag24 sz24 rfl rfl) ?_
      clear hF; intro a hF
      refine seq_wp (wn_none rfl) (wp_call (vs := [_]) hF rfl rfl rfl rfl cf18 (valid1 _ (List.replicate n9 (-1 : Int)) (r) (c) _ (hS.rdRow 1 rfl) (by first | omega | (simp; done) | (simp; omega))) ?_)
      clear hF; rintro _ w ⟨rfl, hS1⟩ a hF
      replace hS := hS.callB hS1 rfl; clear hS1
      refine seq_yl hF (wn_none rfl) rfl rfl (yl_un hF rfl rfl (fun _ => run_not)) ?_
      clear hF; intro a hF
      refine wpList_nil ?_
      refine then_n ?_
      refine c_cond hF rfl (fun hc154 => ?_) (fun hc154 => ?_)
      · first | (replace hc154 := of_decide_eq_true hc154) | (replace hc154 := of_decide_eq_false (bnot_t hc154)) | (subst hc154) | (replace hc154 := bnot_t hc154; subst hc154) | (replace hc154 := bnot_t hc154) | skip
        refine c_seq ?_
        refine c_region ?_
        refine seq_yl hF (wn_none rfl) rfl rfl (yl_build (parts := []) (vs := []) (cs := [_, _, _]) hF bd24 rfl rfl rfl rfl) ?_
        clear hF; intro a hF
        refine seq_wp (wn_none rfl) (wp_store (cs' := #[_, _, _]) hF hS rfl rfl rfl rfl 3 rfl sz24 (by simp [Value.cells, Value.oneCell']) (by simp [Value.cells]) rfl ?_)
        clear hF hS; intro a w hF hS
        refine seq_yl hF (wn_none rfl) rfl rfl (yl_assign hF rfl rfl) ?_
        clear hF; intro a hF
        refine wpList_nil ?_
        refine then_n ?_
        refine wp_ret ?_
        refine then_r ?_
        refine ret_ct hF rfl (resC hS rfl 3 rfl ag24 sz24) rfl ?_
        replace hS := hS.addNil 3 1
        exact ⟨_, rfl, _, _, _, _, _, rfl, by first | exact new_no1 (by omega) | exact new_no2 (show List.replicate n9 (-1 : Int) = List.replicate n.toNat (-1) by rw [show n9 = n.toNat by omega]) (by assumption), (hS.sub [0] (by decide) (by first | rfl | simp) (by simp))⟩
      · first | (replace hc154 := of_decide_eq_false hc154) | (replace hc154 := of_decide_eq_true (bnot_f hc154)) | (subst hc154) | (replace hc154 := bnot_f hc154; subst hc154) | (replace hc154 := bnot_f hc154) | skip
        refine wp_skip ?_
        refine then_n ?_
        refine c_seq ?_
        refine c_region ?_
        refine seq_yl hF (wn_none rfl) rfl rfl (yl_loadK (rs := [_, _, _]) (fun _ h => h ▸ hS) hF rfl rfl 0 rfl ag24 sz24 rfl rfl) ?_
        clear hF; intro a hF
        refine seq_wp (wn_none rfl) (wp_store (cs' := #[_, _, _]) hF hS rfl rfl rfl rfl 3 rfl sz24 (by simp [Value.cells, Value.oneCell']) (by simp [Value.cells]) rfl ?_)
        clear hF hS; intro a w hF hS
        refine seq_yl hF (wn_none rfl) rfl rfl (yl_assign hF rfl rfl) ?_
        clear hF; intro a hF
        refine wpList_nil ?_
        refine then_n ?_
        refine wp_ret ?_
        refine ret_ct hF rfl (resC hS rfl 3 rfl ag24 sz24) rfl ?_
        exact ⟨_, rfl, _, _, _, _, _, rfl, new_yes (show List.replicate n9 (-1 : Int) = List.replicate n.toNat (-1) by rw [show n9 = n.toNat by omega]) (by omega) (by assumption), (hS.sub [1] (by decide) (by first | rfl | simp) (by simp))⟩

set_option maxRecDepth 100000 in
theorem new2 (n r c : Int) (w0 : World) :
    Fn Try.prog 14 #[.int .i64 n, .int .i64 r, .int .i64 c] w0 (fun v w' => ∃ (v1 : Value) (L1 : List Int) (r1 c1 : Int) (b : Bool), v = .tuple #[.agg #[v1, .int .i64 r1, .int .i64 c1], .bool b] ∧ newF n r c = (⟨L1, r1, c1⟩, b) ∧ Sat w0 w' [.row 3 1 v1 (L1).length (cells encI (L1))]) := by
  refine c_enter (N := 35) (l := [_, _, _]) Try.func14 rfl rfl (fun a w hF hS => ?_)
  refine c_seq ?_
  refine c_region ?_
  refine seq_wp (wn_none rfl) (wp_alloc (cs := #[_, _, _]) hF hS rfl rfl rfl zr24 rfl ?_)
  clear hF hS; intro a w g156 hF hS
  refine seq_yl hF (wn_none rfl) rfl rfl (yl_assign hF rfl rfl) ?_
  clear hF; intro a hF
  refine wpList_nil ?_
  refine then_n ?_
  refine c_seq ?_
  refine c_seq ?_
  refine c_region ?_
  refine seq_yl hF (wn_none rfl) rfl rfl (yl_move hF rfl rfl) ?_
  clear hF; intro a hF
  refine seq_yl hF (wn_none rfl) rfl rfl (yl_bin hF rfl rfl rfl rfl (fun _ => run_lss)) ?_
  clear hF; intro a hF
  refine seq_yl hF (wn_none rfl) rfl rfl (yl_move hF rfl rfl) ?_
  clear hF; intro a hF
  refine fr_split hF (fun hc157 hF => ?_) (fun hc157 hF => ?_)
  · first | (replace hc157 := of_decide_eq_true hc157) | (replace hc157 := of_decide_eq_false (bnot_t hc157)) | (subst hc157) | (replace hc157 := bnot_t hc157; subst hc157) | (replace hc157 := bnot_t hc157) | skip
    refine seq_skip hF (wn_f hF rfl rfl rfl rfl) rfl rfl ?_
    clear hF; intro a hF
    refine seq_skip hF (wn_f hF rfl rfl rfl rfl) rfl rfl ?_
    clear hF; intro a hF
    refine seq_yl hF (wn_none rfl) rfl rfl (yl_pick (u := _) (v := undef) hF rfl rfl (fun _ => rfl) (fun h => by cases h)) ?_
    clear hF; intro a hF
    refine wpList_nil ?_
    refine then_n ?_
    refine c_cond_t hF rfl ?_
    refine c_seq ?_
    refine c_region ?_
    refine seq_yl hF (wn_none rfl) rfl rfl (yl_build (parts := []) (vs := []) (cs := [_, _, _]) hF bd24 rfl rfl rfl rfl) ?_
    clear hF; intro a hF
    refine seq_wp (wn_none rfl) (wp_store (cs' := #[_, _, _]) hF hS rfl rfl rfl rfl 0 rfl sz24 (by simp [Value.cells, Value.oneCell']) (by simp [Value.cells]) rfl ?_)
    clear hF hS; intro a w hF hS
    refine seq_yl hF (wn_none rfl) rfl rfl (yl_assign hF rfl rfl) ?_
    clear hF; intro a hF
    refine wpList_nil ?_
    refine then_n ?_
    refine wp_ret ?_
    refine then_r ?_
    refine ret_ct hF rfl (resC hS rfl 0 rfl ag24 sz24) rfl ?_
    replace hS := hS.addNil 3 1
    exact ⟨_, rfl, _, _, _, _, _, rfl, by first | exact new_no1 (by omega) | exact new_no2 (show List.replicate k (-1 : Int) = List.replicate n.toNat (-1) by rw [show k = n.toNat by omega]) (by assumption), (hS.sub [0] (by decide) (by first | rfl | simp) (by simp))⟩
  · first | (replace hc157 := of_decide_eq_false hc157) | (replace hc157 := of_decide_eq_true (bnot_f hc157)) | (subst hc157) | (replace hc157 := bnot_f hc157; subst hc157) | (replace hc157 := bnot_f hc157) | skip
    refine seq_yl hF (wn_t hF rfl rfl rfl rfl) rfl rfl (yl_move hF rfl rfl) ?_
    clear hF; intro a hF
    refine seq_yl hF (wn_t hF rfl rfl rfl rfl) rfl rfl (yl_bin hF rfl rfl rfl rfl (fun _ => run_gtr)) ?_
    clear hF; intro a hF
    refine seq_yl hF (wn_none rfl) rfl rfl (yl_pick (u := _) (v := undef) hF rfl rfl (fun h => by cases h) (fun _ => rfl)) ?_
    clear hF; intro a hF
    refine wpList_nil ?_
    refine then_n ?_
    refine c_cond hF rfl (fun hc159 => ?_) (fun hc159 => ?_)
    · first | (replace hc159 := of_decide_eq_true hc159) | (replace hc159 := of_decide_eq_false (bnot_t hc159)) | (subst hc159) | (replace hc159 := bnot_t hc159; subst hc159) | (replace hc159 := bnot_t hc159) | skip
      refine c_seq ?_
      refine c_region ?_
      refine seq_yl hF (wn_none rfl) rfl rfl (yl_build (parts := []) (vs := []) (cs := [_, _, _]) hF bd24 rfl rfl rfl rfl) ?_
      clear hF; intro a hF
      refine seq_wp (wn_none rfl) (wp_store (cs' := #[_, _, _]) hF hS rfl rfl rfl rfl 0 rfl sz24 (by simp [Value.cells, Value.oneCell']) (by simp [Value.cells]) rfl ?_)
      clear hF hS; intro a w hF hS
      refine seq_yl hF (wn_none rfl) rfl rfl (yl_assign hF rfl rfl) ?_
      clear hF; intro a hF
      refine wpList_nil ?_
      refine then_n ?_
      refine wp_ret ?_
      refine then_r ?_
      refine ret_ct hF rfl (resC hS rfl 0 rfl ag24 sz24) rfl ?_
      replace hS := hS.addNil 3 1
      exact ⟨_, rfl, _, _, _, _, _, rfl, by first | exact new_no1 (by omega) | exact new_no2 (show List.replicate k (-1 : Int) = List.replicate n.toNat (-1) by rw [show k = n.toNat by omega]) (by assumption), (hS.sub [0] (by decide) (by first | rfl | simp) (by simp))⟩
    · first | (replace hc159 := of_decide_eq_false hc159) | (replace hc159 := of_decide_eq_true (bnot_f hc159)) | (subst hc159) | (replace hc159 := bnot_f hc159; subst hc159) | (replace hc159 := bnot_f hc159) | skip
      refine wp_skip ?_
      refine then_n ?_
      refine c_seq ?_
      refine c_region ?_
      refine seq_yl hF (wn_none rfl) rfl rfl (yl_move hF rfl rfl) ?_
      clear hF; intro a hF
      refine seq_yl hF (wn_none rfl) rfl rfl (yl_move hF rfl rfl) ?_
      clear hF; intro a hF
      refine seq_yl hF (wn_none rfl) rfl rfl (yl_build (parts := [(1, .tmp 17), (2, .tmp 18)]) (vs := [(1, _), (2, _)]) (cs := [_, _, _]) hF bd24 rfl rfl rfl rfl) ?_
      clear hF; intro a hF
      refine seq_wp (wn_none rfl) (wp_alloc (cs := #[_, _, _]) hF hS rfl rfl rfl zr24 rfl ?_)
      clear hF hS; intro a w g161 hF hS
      refine seq_wp (wn_none rfl) (wp_store (cs' := #[_, _, _]) hF hS rfl rfl rfl rfl 0 rfl sz24 (by simp [Value.cells, Value.oneCell']) (by simp [Value.cells]) rfl ?_)
      clear hF hS; intro a w hF hS
      refine wpList_nil ?_
      refine then_n ?_
      refine c_seq ?_
      refine c_seq ?_
      refine c_region ?_
      refine seq_yl hF (wn_none rfl) rfl rfl (yl_assign hF rfl rfl) ?_
      clear hF; intro a hF
      refine wpList_nil ?_
      refine then_n ?_
      refine wp_block ?_
      replace hS := hS.addNil 3 1
      refine c_loop (fun m a w => ∃ (k : Nat) (AvM : Option Addr) (cvM : Nat), m = n.toNat - k ∧ ((k : Int) ≤ n) ∧ Fr 35 a [(0, .int .i64 (n)), (6, .pointer (some ⟨g156, 0, none⟩)), (8, .pointer (some ⟨g161, 0, none⟩)), (9, .int .i64 ((k : Nat) : Int))] ∧ Sat w0 w (.box g156 24 #[.slice none 0 0, .int .i64 (0 : Int), .int .i64 (0 : Int)] :: .box g161 24 #[.slice AvM ((List.replicate k (-1 : Int))).length cvM, .int .i64 (r), .int .i64 (c)] :: .row 3 1 (.slice AvM ((List.replicate k (-1 : Int))).length cvM) ((List.replicate k (-1 : Int))).length (cells encI ((List.replicate k (-1 : Int)))) :: [])) (n.toNat - 0) ?_ ?_
      · exact ⟨0, none, 0, rfl, (by omega), hF.to [0, 6, 8, 9] rfl, (hS.sub [2, 1, 0] (by decide) (by first | rfl | simp) (by simp))⟩
      · clear hF hS; try clear hSS
        clear a w; rintro m a w ⟨k, AvM, cvM, rfl, hinv, hF, hS⟩
        have hk := hinv
        refine c_seq ?_
        refine c_seq ?_
        refine c_region ?_
        refine seq_yl hF (wn_none rfl) rfl rfl (yl_move hF rfl rfl) ?_
        clear hF; intro a hF
        refine seq_yl hF (wn_none rfl) rfl rfl (yl_move hF rfl rfl) ?_
        clear hF; intro a hF
        refine seq_yl hF (wn_none rfl) rfl rfl (yl_bin hF rfl rfl rfl rfl (fun _ => run_lss)) ?_
        clear hF; intro a hF
        refine wpList_nil ?_
        refine then_n ?_
        refine c_cond hF rfl (fun hc162 => ?_) (fun hc162 => ?_)
        · first | (replace hc162 := of_decide_eq_true hc162) | (replace hc162 := of_decide_eq_false (bnot_t hc162)) | (subst hc162) | (replace hc162 := bnot_t hc162; subst hc162) | (replace hc162 := bnot_t hc162) | skip
          refine wp_skip ?_
          refine then_n ?_
          refine c_seq ?_
          refine wp_block ?_
          refine c_region ?_
          refine seq_yl hF (wn_none rfl) rfl rfl (yl_fieldAddr hF rfl rfl (fun w => by kernel_rfl : ∀ w, (Instr.fieldAt 24 (.pointer (some ⟨g161, 0, none⟩)) 0).run Try.prog w = .ok (.pointer (some ⟨g161, 0, none⟩)) w)) ?_
          clear hF; intro a hF
          refine seq_yl hF (wn_none rfl) rfl rfl (yl_load (fun _ h => h ▸ hS) hF rfl rfl 1 rfl ag22 rfl) ?_
          clear hF; intro a hF
          refine seq_wp (wn_none rfl) (wp_bslice (parts := [(0, .const (Go.Value.int Go.IntKind.i64 (-1)))]) (vs := [(0, _)]) (enc := encI) (e := 3) (size := 1) (cs := #[.int .i64 (-1 : Int)]) hF hS rfl rfl rfl rfl ([(-1 : Int)] : List Int) (fun w => by kernel_rfl) rfl rfl rfl (by decide) ?_)
          clear hF hS; intro a w v163 hF hS
          obtain ⟨Av163, cv163, rfl⟩ := hS.form 0 rfl
          refine seq_wp (wn_none rfl) (wp_app (enc := encI) hF hS rfl rfl rfl rfl rfl 3 rfl sl22 inf3 rfl (by decide) (hS.rdRow 0 rfl) encI_one (by decide) (by first | omega | (simp only [List.length_append, List.length_cons, List.length_nil]; omega) | (simp; omega)) ?_)
          clear hF hS; intro a w v164 hF hS
          obtain ⟨Av164, cv164, rfl⟩ := hS.form 3 rfl
          refine seq_yl hF (wn_none rfl) rfl rfl (yl_fieldAddr hF rfl rfl (fun w => by kernel_rfl : ∀ w, (Instr.fieldAt 24 (.pointer (some ⟨g161, 0, none⟩)) 0).run Try.prog w = .ok (.pointer (some ⟨g161, 0, none⟩)) w)) ?_
          clear hF; intro a hF
          refine seq_wp (wn_none rfl) (wp_store (cs' := #[_, _, _]) hF hS rfl rfl rfl rfl 2 rfl sz22 (by simp [Value.cells, Value.oneCell']) (by simp [Value.cells]) rfl ?_)
          clear hF hS; intro a w hF hS
          refine wpList_nil ?_
          refine inb_n ?_
          refine then_n ?_
          refine c_region ?_
          refine seq_yl hF (wn_none rfl) rfl rfl (yl_move hF rfl rfl) ?_
          clear hF; intro a hF
          refine seq_yl hF (wn_none rfl) rfl rfl (yl_bin hF rfl rfl rfl rfl (fun _ => run_inc (by omega))) ?_
          clear hF; intro a hF
          refine seq_yl hF (wn_none rfl) rfl rfl (yl_assign hF rfl rfl) ?_
          clear hF; intro a hF
          refine wpList_nil ?_
          refine then_n ?_
          rw [rep_succ] at hS
          exact ⟨_, (by omega), k + 1, Av164, cv164, rfl, (by omega), hF.to [0, 6, 8, 9] rfl, (hS.sub [1, 2, 3] (by decide) (by first | rfl | simp) (by simp))⟩
        · first | (replace hc162 := of_decide_eq_false hc162) | (replace hc162 := of_decide_eq_true (bnot_f hc162)) | (subst hc162) | (replace hc162 := bnot_f hc162; subst hc162) | (replace hc162 := bnot_f hc162) | skip
          refine wp_exit ?_
          refine then_x ?_
          refine then_x ?_
          refine inb_x ?_
          refine then_n ?_
          refine c_seq ?_
          refine c_seq ?_
          refine c_region ?_
          refine seq_yl hF (wn_none rfl) rfl rfl (yl_loadK (rs := [_, _, _]) (fun _ h => h ▸ hS) hF rfl rfl 1 rfl ag24 sz24 rfl rfl) ?_
          clear hF; intro a hF
          refine seq_wp (wn_none rfl) (wp_call (vs := [_]) hF rfl rfl rfl rfl cf19 (valid2 _ (List.replicate k (-1 : Int)) (r) (c) _ (hS.rdRow 2 rfl) (by first | omega | (simp; done) | (simp; omega))) ?_)
          clear hF; rintro _ w ⟨rfl, hS1⟩ a hF
          replace hS := hS.callB hS1 rfl; clear hS1
          refine seq_yl hF (wn_none rfl) rfl rfl (yl_un hF rfl rfl (fun _ => run_not)) ?_
          clear hF; intro a hF
          refine wpList_nil ?_
          refine then_n ?_
          refine c_cond hF rfl (fun hc165 => ?_) (fun hc165 => ?_)
          · first | (replace hc165 := of_decide_eq_true hc165) | (replace hc165 := of_decide_eq_false (bnot_t hc165)) | (subst hc165) | (replace hc165 := bnot_t hc165; subst hc165) | (replace hc165 := bnot_t hc165) | skip
            refine c_seq ?_
            refine c_region ?_
            refine seq_yl hF (wn_none rfl) rfl rfl (yl_build (parts := []) (vs := []) (cs := [_, _, _]) hF bd24 rfl rfl rfl rfl) ?_
            clear hF; intro a hF
            refine seq_wp (wn_none rfl) (wp_store (cs' := #[_, _, _]) hF hS rfl rfl rfl rfl 0 rfl sz24 (by simp [Value.cells, Value.oneCell']) (by simp [Value.cells]) rfl ?_)
            clear hF hS; intro a w hF hS
            refine seq_yl hF (wn_none rfl) rfl rfl (yl_assign hF rfl rfl) ?_
            clear hF; intro a hF
            refine wpList_nil ?_
            refine then_n ?_
            refine wp_ret ?_
            refine then_r ?_
            refine ret_ct hF rfl (resC hS rfl 0 rfl ag24 sz24) rfl ?_
            replace hS := hS.addNil 3 1
            exact ⟨_, rfl, _, _, _, _, _, rfl, by first | exact new_no1 (by omega) | exact new_no2 (show List.replicate k (-1 : Int) = List.replicate n.toNat (-1) by rw [show k = n.toNat by omega]) (by assumption), (hS.sub [0] (by decide) (by first | rfl | simp) (by simp))⟩
          · first | (replace hc165 := of_decide_eq_false hc165) | (replace hc165 := of_decide_eq_true (bnot_f hc165)) | (subst hc165) | (replace hc165 := bnot_f hc165; subst hc165) | (replace hc165 := bnot_f hc165) | skip
            refine wp_skip ?_
            refine then_n ?_
            refine c_seq ?_
            refine c_region ?_
            refine seq_yl hF (wn_none rfl) rfl rfl (yl_loadK (rs := [_, _, _]) (fun _ h => h ▸ hS) hF rfl rfl 1 rfl ag24 sz24 rfl rfl) ?_
            clear hF; intro a hF
            refine seq_wp (wn_none rfl) (wp_store (cs' := #[_, _, _]) hF hS rfl rfl rfl rfl 0 rfl sz24 (by simp [Value.cells, Value.oneCell']) (by simp [Value.cells]) rfl ?_)
            clear hF hS; intro a w hF hS
            refine seq_yl hF (wn_none rfl) rfl rfl (yl_assign hF rfl rfl) ?_
            clear hF; intro a hF
            refine wpList_nil ?_
            refine then_n ?_
            refine wp_ret ?_
            refine ret_ct hF rfl (resC hS rfl 0 rfl ag24 sz24) rfl ?_
            exact ⟨_, rfl, _, _, _, _, _, rfl, new_yes (show List.replicate k (-1 : Int) = List.replicate n.toNat (-1) by rw [show k = n.toNat by omega]) (by omega) (by assumption), (hS.sub [2] (by decide) (by first | rfl | simp) (by simp))⟩

end Go.Proofs.Ytaakkkknnihfmaa

/- walks, printed by wip/gen -/
import Derived.Test.YtffaminjbcfojaaF
import Derived.Test.YtffaminjbcfojaaP
namespace Go.Proofs.Ytffaminjbcfojaa
open Go.RowKit
set_option linter.unusedVariables false
set_option linter.unusedSimpArgs false

set_option maxRecDepth 100000 in
theorem known_any (n : Int) (w0 : World) :
    Fn Try.prog 34 #[.int .i64 n] w0 (fun v w' => v = .bool (decide (0 ≤ n ∧ n ≤ 7)) ∧ Sat w0 w' []) := by
  refine c_enter (N := 9) (l := [_]) Try.func34 rfl rfl (fun a w hF hS => ?_)
  refine c_seq ?_
  refine c_region ?_
  refine seq_yl hF (wn_none rfl) rfl rfl (yl_assign hF rfl rfl) ?_
  clear hF; intro a hF
  refine wpList_nil ?_
  refine then_n ?_
  refine c_seq ?_
  refine c_region ?_
  refine seq_yl hF (wn_none rfl) rfl rfl (yl_move hF rfl rfl) ?_
  clear hF; intro a hF
  refine seq_yl hF (wn_none rfl) rfl rfl (yl_bin hF rfl rfl rfl rfl (fun _ => run_geq)) ?_
  clear hF; intro a hF
  refine seq_yl hF (wn_none rfl) rfl rfl (yl_move hF rfl rfl) ?_
  clear hF; intro a hF
  refine fr_split hF (fun hc1 hF => ?_) (fun hc1 hF => ?_)
  · first | (replace hc1 := of_decide_eq_true hc1) | (replace hc1 := of_decide_eq_false (bnot_t hc1)) | (subst hc1) | (replace hc1 := bnot_t hc1; subst hc1) | (replace hc1 := bnot_t hc1) | skip
    refine seq_yl hF (wn_t hF rfl rfl rfl rfl) rfl rfl (yl_move hF rfl rfl) ?_
    clear hF; intro a hF
    refine seq_yl hF (wn_t hF rfl rfl rfl rfl) rfl rfl (yl_bin hF rfl rfl rfl rfl (fun _ => run_lss)) ?_
    clear hF; intro a hF
    refine seq_yl hF (wn_none rfl) rfl rfl (yl_pick (u := _) (v := undef) hF rfl rfl (fun _ => rfl) (fun h => by cases h)) ?_
    clear hF; intro a hF
    refine seq_yl hF (wn_none rfl) rfl rfl (yl_assign hF rfl rfl) ?_
    clear hF; intro a hF
    refine wpList_nil ?_
    refine then_n ?_
    refine wp_ret ?_
    refine ret_t hF rfl rfl ?_
    exact ⟨_, rfl, congrArg Value.bool (dec_d (by constructor <;> intro _ <;> omega)), (hS.sub [] (by decide) (by first | rfl | simp) (by simp))⟩
  · first | (replace hc1 := of_decide_eq_false hc1) | (replace hc1 := of_decide_eq_true (bnot_f hc1)) | (subst hc1) | (replace hc1 := bnot_f hc1; subst hc1) | (replace hc1 := bnot_f hc1) | skip
    refine seq_skip hF (wn_f hF rfl rfl rfl rfl) rfl rfl ?_
    clear hF; intro a hF
    refine seq_skip hF (wn_f hF rfl rfl rfl rfl) rfl rfl ?_
    clear hF; intro a hF
    refine seq_yl hF (wn_none rfl) rfl rfl (yl_pick (u := _) (v := undef) hF rfl rfl (fun h => by cases h) (fun _ => rfl)) ?_
    clear hF; intro a hF
    refine seq_yl hF (wn_none rfl) rfl rfl (yl_assign hF rfl rfl) ?_
    clear hF; intro a hF
    refine wpList_nil ?_
    refine then_n ?_
    refine wp_ret ?_
    refine ret_t hF rfl rfl ?_
    exact ⟨_, rfl, congrArg Value.bool (dec_f (by omega)), (hS.sub [] (by decide) (by first | rfl | simp) (by simp))⟩

set_option maxRecDepth 100000 in
theorem tick_any (n : Int) (w0 : World) :
    Fn Try.prog 33 #[.int .i64 n] w0 (fun v w' => v = .bool (decide (0 ≤ n ∧ n ≤ 1000000)) ∧ Sat w0 w' []) := by
  refine c_enter (N := 9) (l := [_]) Try.func33 rfl rfl (fun a w hF hS => ?_)
  refine c_seq ?_
  refine c_region ?_
  refine seq_yl hF (wn_none rfl) rfl rfl (yl_assign hF rfl rfl) ?_
  clear hF; intro a hF
  refine wpList_nil ?_
  refine then_n ?_
  refine c_seq ?_
  refine c_region ?_
  refine seq_yl hF (wn_none rfl) rfl rfl (yl_move hF rfl rfl) ?_
  clear hF; intro a hF
  refine seq_yl hF (wn_none rfl) rfl rfl (yl_bin hF rfl rfl rfl rfl (fun _ => run_geq)) ?_
  clear hF; intro a hF
  refine seq_yl hF (wn_none rfl) rfl rfl (yl_move hF rfl rfl) ?_
  clear hF; intro a hF
  refine fr_split hF (fun hc2 hF => ?_) (fun hc2 hF => ?_)
  · first | (replace hc2 := of_decide_eq_true hc2) | (replace hc2 := of_decide_eq_false (bnot_t hc2)) | (subst hc2) | (replace hc2 := bnot_t hc2; subst hc2) | (replace hc2 := bnot_t hc2) | skip
    refine seq_yl hF (wn_t hF rfl rfl rfl rfl) rfl rfl (yl_move hF rfl rfl) ?_
    clear hF; intro a hF
    refine seq_yl hF (wn_t hF rfl rfl rfl rfl) rfl rfl (yl_bin hF rfl rfl rfl rfl (fun _ => run_leq)) ?_
    clear hF; intro a hF
    refine seq_yl hF (wn_none rfl) rfl rfl (yl_pick (u := _) (v := undef) hF rfl rfl (fun _ => rfl) (fun h => by cases h)) ?_
    clear hF; intro a hF
    refine seq_yl hF (wn_none rfl) rfl rfl (yl_assign hF rfl rfl) ?_
    clear hF; intro a hF
    refine wpList_nil ?_
    refine then_n ?_
    refine wp_ret ?_
    refine ret_t hF rfl rfl ?_
    exact ⟨_, rfl, congrArg Value.bool (dec_d (by constructor <;> intro _ <;> omega)), (hS.sub [] (by decide) (by first | rfl | simp) (by simp))⟩
  · first | (replace hc2 := of_decide_eq_false hc2) | (replace hc2 := of_decide_eq_true (bnot_f hc2)) | (subst hc2) | (replace hc2 := bnot_f hc2; subst hc2) | (replace hc2 := bnot_f hc2) | skip
    refine seq_skip hF (wn_f hF rfl rfl rfl rfl) rfl rfl ?_
    clear hF; intro a hF
    refine seq_skip hF (wn_f hF rfl rfl rfl rfl) rfl rfl ?_
    clear hF; intro a hF
    refine seq_yl hF (wn_none rfl) rfl rfl (yl_pick (u := _) (v := undef) hF rfl rfl (fun h => by cases h) (fun _ => rfl)) ?_
    clear hF; intro a hF
    refine seq_yl hF (wn_none rfl) rfl rfl (yl_assign hF rfl rfl) ?_
    clear hF; intro a hF
    refine wpList_nil ?_
    refine then_n ?_
    refine wp_ret ?_
    refine ret_t hF rfl rfl ?_
    exact ⟨_, rfl, congrArg Value.bool (dec_f (by omega)), (hS.sub [] (by decide) (by first | rfl | simp) (by simp))⟩

set_option maxRecDepth 100000 in
theorem cloneD_any (v : Value) (L : List E44) (w0 : World) (h : Rd w0 2 v (L).length (cells enc44 (L))) (hn : L.length ≤ 1000000) :
    Fn Try.prog 25 #[v] w0 (fun v w' => ∃ v1, v = v1 ∧ Sat w0 w' [.row 44 2 v1 (L).length (cells enc44 (L))]) := by
  obtain ⟨Av, cv, rfl⟩ := Rd.form h
  refine c_enter (N := 8) (l := [_]) Try.func25 rfl rfl (fun a w hF hS => ?_)
  replace hS := hS.addRo h
  refine c_seq ?_
  refine c_region ?_
  refine seq_yl hF (wn_none rfl) rfl rfl (yl_assign hF rfl rfl) ?_
  clear hF; intro a hF
  refine wpList_nil ?_
  refine then_n ?_
  refine c_seq ?_
  refine c_seq ?_
  refine c_region ?_
  refine seq_yl hF (wn_none rfl) rfl rfl (yl_move hF rfl rfl) ?_
  clear hF; intro a hF
  refine seq_yl hF (wn_none rfl) rfl rfl (yl_bin hF rfl rfl rfl rfl (fun _ => run_slnil sl26)) ?_
  clear hF; intro a hF
  refine wpList_nil ?_
  refine then_n ?_
  refine c_cond hF rfl (fun hc3 => ?_) (fun hc3 => ?_)
  · first | (replace hc3 := of_decide_eq_true hc3) | (replace hc3 := of_decide_eq_false (bnot_t hc3)) | (subst hc3) | (replace hc3 := bnot_t hc3; subst hc3) | (replace hc3 := bnot_t hc3) | skip
    refine c_seq ?_
    refine c_region ?_
    refine seq_yl hF (wn_none rfl) rfl rfl (yl_assign hF rfl rfl) ?_
    clear hF; intro a hF
    refine wpList_nil ?_
    refine then_n ?_
    refine wp_ret ?_
    refine then_r ?_
    refine ret_t hF rfl rfl ?_
    obtain rfl := rd_none h (by assumption)
    replace hS := hS.addNil 44 2
    exact ⟨_, rfl, _, rfl, (hS.sub [0] (by decide) (by first | rfl | simp) (by simp))⟩
  · first | (replace hc3 := of_decide_eq_false hc3) | (replace hc3 := of_decide_eq_true (bnot_f hc3)) | (subst hc3) | (replace hc3 := bnot_f hc3; subst hc3) | (replace hc3 := bnot_f hc3) | skip
    refine wp_skip ?_
    refine then_n ?_
    refine c_seq ?_
    refine c_region ?_
    refine seq_wp (wn_none rfl) (wp_bslice (parts := []) (vs := []) (enc := enc44) (e := 44) (size := 2) (cs := #[]) hF hS rfl rfl rfl rfl ([] : List E44) (fun w => by kernel_rfl) rfl rfl rfl (by decide) ?_)
    clear hF hS; intro a w v5 hF hS
    obtain ⟨Av5, cv5, rfl⟩ := hS.form 0 rfl
    refine seq_yl hF (wn_none rfl) rfl rfl (yl_move hF rfl rfl) ?_
    clear hF; intro a hF
    refine seq_wp (wn_none rfl) (wp_app (enc := enc44) hF hS rfl rfl rfl rfl rfl 0 rfl sl26 inf44 rfl (by decide) (hS.rdRo 1 rfl) enc44_one (by decide) (by first | omega | (simp only [List.length_append, List.length_cons, List.length_nil]; omega) | (simp; omega)) ?_)
    clear hF hS; intro a w v6 hF hS
    obtain ⟨Av6, cv6, rfl⟩ := hS.form 0 rfl
    refine seq_yl hF (wn_none rfl) rfl rfl (yl_assign hF rfl rfl) ?_
    clear hF; intro a hF
    refine wpList_nil ?_
    refine then_n ?_
    refine wp_ret ?_
    refine ret_t hF rfl rfl ?_
    exact ⟨_, rfl, _, rfl, (hS.sub [0] (by decide) (by first | rfl | simp) (by simp))⟩

set_option maxRecDepth 100000 in
theorem indexD_any {k : FuncId} {caps : List Value} {p : E44 → Bool} {H : List Chunk} (w0 w : World) (v : Value) (L : List E44) (hcf : ∀ (args : Array Value) (w : World), (callFunc k args).run Try.prog w = .ok (.enter k args) w) (hp : PredOn Try.prog w0 H k caps (fun x : E44 => .agg #[.int .i64 x.f0, .int .i64 x.f1]) p) (hr : ∀ w, Sat w0 w H → Rd w 2 v (L).length (cells enc44 (L))) (hS : Sat w0 w H) (hL : L.length ≤ 1000000) :
    Fn Try.prog 35 #[v, .func (.func k) #[] caps.toArray] w (fun v w' => v = .int .i64 (idxF p L) ∧ Sat w0 w' H) := by
  obtain ⟨Av, cv, rfl⟩ := (hr _ hS).form
  refine c_enterS (N := 19) (l := [_, _]) Try.func35 rfl rfl (fun a hF => ?_)
  refine c_seq ?_
  refine c_region ?_
  refine seq_yl hF (wn_none rfl) rfl rfl (yl_assign hF rfl rfl) ?_
  clear hF; intro a hF
  refine wpList_nil ?_
  refine then_n ?_
  refine c_seq ?_
  refine c_seq ?_
  refine c_region ?_
  refine seq_yl hF (wn_none rfl) rfl rfl (yl_move hF rfl rfl) ?_
  clear hF; intro a hF
  refine seq_yl hF (wn_none rfl) rfl rfl (yl_len hF rfl rfl (fun _ => run_lenRd sl26 (hr _ hS))) ?_
  clear hF; intro a hF
  refine seq_yl hF (wn_none rfl) rfl rfl (yl_move hF rfl rfl) ?_
  clear hF; intro a hF
  refine wpList_nil ?_
  refine then_n ?_
  refine wp_block ?_
  refine c_loop (fun m a w => ∃ (k0 : Nat), m = L.length - k0 ∧ (k0 ≤ L.length ∧ ∀ x ∈ L.take k0, p x = false) ∧ Fr 19 a [(0, .slice Av L.length cv), (1, .func (.func k) #[] caps.toArray), (7, .int .i64 (((L).length : Nat) : Int)), (8, .int .i64 ((k0 : Nat) : Int))] ∧ Sat w0 w (H)) (L.length - 0) ?_ ?_
  · exact ⟨0, rfl, ⟨Nat.zero_le _, by simp⟩, hF.to [0, 1, 7, 8] rfl, (hS.subT 0 [] (by decide) (by first | rfl | simp) (by simp) (by simp))⟩
  · clear hF hS; try clear hSS
    clear a w; rintro m a w ⟨k0, rfl, hinv, hF, hS⟩
    have hk := hinv.1
    refine c_seq ?_
    refine c_region ?_
    refine seq_yl hF (wn_none rfl) rfl rfl (yl_bin hF rfl rfl rfl rfl (fun _ => run_lss)) ?_
    clear hF; intro a hF
    refine wpList_nil ?_
    refine then_n ?_
    refine c_seq ?_
    refine c_cond hF rfl (fun hc7 => ?_) (fun hc7 => ?_)
    · first | (replace hc7 := of_decide_eq_true hc7) | (replace hc7 := of_decide_eq_false (bnot_t hc7)) | (subst hc7) | (replace hc7 := bnot_t hc7; subst hc7) | (replace hc7 := bnot_t hc7) | skip
      refine wp_skip ?_
      refine then_n ?_
      refine c_seq ?_
      refine wp_block ?_
      refine c_seq ?_
      refine c_region ?_
      refine seq_yl hF (wn_none rfl) rfl rfl (yl_move hF rfl rfl) ?_
      clear hF; intro a hF
      refine seq_yl hF (wn_none rfl) rfl rfl (yl_assign hF rfl rfl) ?_
      clear hF; intro a hF
      refine wpList_nil ?_
      refine then_n ?_
      refine c_seq ?_
      refine c_region ?_
      refine seq_yl hF (wn_none rfl) rfl rfl (yl_move hF rfl rfl) ?_
      clear hF; intro a hF
      refine seq_yl hF (wn_none rfl) rfl rfl (yl_move hF rfl rfl) ?_
      clear hF; intro a hF
      refine seq_yl hF (wn_none rfl) rfl rfl (yl_move hF rfl rfl) ?_
      clear hF; intro a hF
      have hlt_hx8 : k0 < (L).length := by first | omega | (simp; done) | (simp; omega)
      obtain ⟨ad9, rfl⟩ := rd_some (hr _ hS) hlt_hx8
      obtain ⟨x8, hx8⟩ := get_some hlt_hx8
      refine seq_yl hF (wn_none rfl) rfl rfl (yl_indexAddr hF rfl rfl rfl (fun _ => run_idx' sl26 sz44 (hr _ hS) hlt_hx8)) ?_
      clear hF; intro a hF
      refine seq_yl hF (wn_none rfl) rfl rfl (yl_loadEl (rs := [.int .i64 (x8.f0), .int .i64 (x8.f1)]) hF rfl rfl ag44 sz44 rfl (fun _ h => rd_cells (enc := enc44) (by subst h; exact hr _ hS) enc44_len hx8)) ?_
      clear hF; intro a hF
      refine seq_wp (wn_none rfl) (wp_callC (f := k) (vs := [_]) (caps := caps) hF rfl rfl rfl rfl rfl hcf (hp x8 _ hS) ?_)
      clear hF hS; rintro _ w ⟨rfl, hS⟩ a hF
      refine wpList_nil ?_
      refine then_n ?_
      refine c_cond hF rfl (fun hc10 => ?_) (fun hc10 => ?_)
      · first | (replace hc10 := of_decide_eq_true hc10) | (replace hc10 := of_decide_eq_false (bnot_t hc10)) | (subst hc10) | (replace hc10 := bnot_t hc10; subst hc10) | (replace hc10 := bnot_t hc10) | skip
        refine c_seq ?_
        refine c_region ?_
        refine seq_yl hF (wn_none rfl) rfl rfl (yl_move hF rfl rfl) ?_
        clear hF; intro a hF
        refine seq_yl hF (wn_none rfl) rfl rfl (yl_assign hF rfl rfl) ?_
        clear hF; intro a hF
        refine wpList_nil ?_
        refine then_n ?_
        refine wp_ret ?_
        refine inb_r ?_
        refine then_r ?_
        refine then_r ?_
        refine inb_r ?_
        refine then_r ?_
        refine ret_t hF rfl rfl ?_
        exact ⟨_, rfl, congrArg (Value.int .i64) (idx_hit hx8 (by assumption) hinv.2), hS⟩
      · first | (replace hc10 := of_decide_eq_false hc10) | (replace hc10 := of_decide_eq_true (bnot_f hc10)) | (subst hc10) | (replace hc10 := bnot_f hc10; subst hc10) | (replace hc10 := bnot_f hc10) | skip
        refine wp_skip ?_
        refine inb_n ?_
        refine then_n ?_
        refine c_region ?_
        refine seq_yl hF (wn_none rfl) rfl rfl (yl_bin hF rfl rfl rfl rfl (fun _ => run_inc (by omega))) ?_
        clear hF; intro a hF
        refine seq_yl hF (wn_none rfl) rfl rfl (yl_move hF rfl rfl) ?_
        clear hF; intro a hF
        refine wpList_nil ?_
        refine then_n ?_
        exact ⟨_, (by omega), k0 + 1, rfl, ⟨by omega, all_not_step hx8 (by assumption) hinv.2⟩, hF.to [0, 1, 7, 8] rfl, (hS.subT 0 [] (by decide) (by first | rfl | simp) (by simp) (by simp))⟩
    · first | (replace hc7 := of_decide_eq_false hc7) | (replace hc7 := of_decide_eq_true (bnot_f hc7)) | (subst hc7) | (replace hc7 := bnot_f hc7; subst hc7) | (replace hc7 := bnot_f hc7) | skip
      refine wp_exit ?_
      refine then_x ?_
      refine then_x ?_
      refine inb_x ?_
      refine then_n ?_
      refine c_seq ?_
      refine c_region ?_
      refine seq_yl hF (wn_none rfl) rfl rfl (yl_assign hF rfl rfl) ?_
      clear hF; intro a hF
      refine wpList_nil ?_
      refine then_n ?_
      refine wp_ret ?_
      refine ret_t hF rfl rfl ?_
      exact ⟨_, rfl, congrArg (Value.int .i64) (idx_none hinv.2 (by omega)), hS⟩

set_option maxRecDepth 100000 in
theorem clFind (w0 w : World) (H : List Chunk) (i g : Nat) (n : Int) (hi : H[i]? = some (.box g 3 #[.int .i64 n])) (x : E44) (hS : Sat w0 w H) :
    Fn Try.prog 36 #[.agg #[.int .i64 x.f0, .int .i64 x.f1], .pointer (some ⟨g, 0, none⟩)] w (fun v w' => v = .bool (decide (x.f0 = n)) ∧ Sat w0 w' H) := by
  refine c_enterS (N := 8) (l := [_, _]) Try.func36 rfl rfl (fun a hF => ?_)
  refine c_seq ?_
  refine c_region ?_
  refine seq_wp (wn_none rfl) (wp_box (cs := #[_, _]) hF hS rfl rfl rfl rfl rfl ?_)
  clear hF hS; intro a w g11 hF hS
  refine seq_yl hF (wn_none rfl) rfl rfl (yl_assign hF rfl rfl) ?_
  clear hF; intro a hF
  refine wpList_nil ?_
  refine then_n ?_
  refine c_seq ?_
  refine c_region ?_
  refine seq_yl hF (wn_none rfl) rfl rfl (yl_fieldAddr hF rfl rfl (fun w => by kernel_rfl : ∀ w, (Instr.fieldAt 44 (.pointer (some ⟨g11, 0, none⟩)) 0).run Try.prog w = .ok (.pointer (some ⟨g11, 0, none⟩)) w)) ?_
  clear hF; intro a hF
  refine seq_yl hF (wn_none rfl) rfl rfl (yl_load (fun _ h => h ▸ hS) hF rfl rfl 0 rfl ag3 rfl) ?_
  clear hF; intro a hF
  refine seq_yl hF (wn_none rfl) rfl rfl (yl_load (fun _ h => h ▸ hS) hF rfl rfl (i + 1) hi ag3 rfl) ?_
  clear hF; intro a hF
  refine seq_yl hF (wn_none rfl) rfl rfl (yl_bin hF rfl rfl rfl rfl (fun _ => run_eql)) ?_
  clear hF; intro a hF
  refine seq_yl hF (wn_none rfl) rfl rfl (yl_assign hF rfl rfl) ?_
  clear hF; intro a hF
  refine wpList_nil ?_
  refine then_n ?_
  refine wp_ret ?_
  refine ret_t hF rfl rfl ?_
  exact ⟨_, rfl, rfl, (hS.subT 1 [] (by decide) (by first | rfl | simp) (by simp) (by simp))⟩

set_option maxRecDepth 100000 in
theorem find_any (v : Value) (L : List E44) (n : Int) (w0 : World) (hv : Rd w0 2 v (L).length (cells enc44 (L))) (hL : L.length ≤ 1000000) :
    Fn Try.prog 27 #[v, .int .i64 n] w0 (fun v w' => v = .int .i64 (idxF (fun x : E44 => decide (x.f0 = n)) L) ∧ Sat w0 w' []) := by
  obtain ⟨Av, cv, rfl⟩ := Rd.form hv
  refine c_enter (N := 8) (l := [_, _]) Try.func27 rfl rfl (fun a w hF hS => ?_)
  replace hS := hS.addRo hv
  refine c_seq ?_
  refine c_region ?_
  refine seq_wp (wn_none rfl) (wp_box (cs := #[_]) hF hS rfl rfl rfl rfl rfl ?_)
  clear hF hS; intro a w g12 hF hS
  refine seq_yl hF (wn_none rfl) rfl rfl (yl_assign hF rfl rfl) ?_
  clear hF; intro a hF
  refine wpList_nil ?_
  refine then_n ?_
  refine c_seq ?_
  refine c_region ?_
  refine seq_yl hF (wn_none rfl) rfl rfl (yl_move hF rfl rfl) ?_
  clear hF; intro a hF
  refine seq_yl hF (wn_none rfl) rfl rfl (yl_makeFunc (vs := [_]) hF rfl rfl) ?_
  clear hF; intro a hF
  refine seq_wp (wn_none rfl) (wp_call (vs := [_, _]) hF rfl rfl rfl rfl cf35 (indexD_any (k := 36) (caps := [.pointer (some ⟨g12, 0, none⟩)]) (p := (fun x : E44 => decide (x.f0 = (n)))) _ _ _ L cf36 (fun x w h => clFind _ _ _ 0 g12 (n) rfl x h) (fun w h => Sat.rdRo h 1 rfl) hS (by first | omega | (simp; done) | (simp; omega))) ?_)
  clear hF hS; rintro _ w ⟨rfl, hS⟩ a hF
  refine seq_yl hF (wn_none rfl) rfl rfl (yl_assign hF rfl rfl) ?_
  clear hF; intro a hF
  refine wpList_nil ?_
  refine then_n ?_
  refine wp_ret ?_
  refine ret_t hF rfl rfl ?_
  exact ⟨_, rfl, congrArg (Value.int .i64) (rfl), (hS.sub [] (by decide) (by first | rfl | simp) (by simp))⟩

end Go.Proofs.Ytffaminjbcfojaa

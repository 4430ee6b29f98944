/- walks, printed by wip/gen -/
import Derived.Test.YtkejcnhfbfgphaaW3
namespace Go.Proofs.Ytkejcnhfbfgphaa
open Go.RowKit
set_option linter.unusedVariables false
set_option linter.unusedSimpArgs false

set_option maxRecDepth 100000 in
theorem rules_any (v : Value) (L : List Int) (w0 : World) (hv : Rd w0 1 v (L).length (cells encI (L))) (hL : L.length ≤ 9223372036854775807) :
  Fn Try.prog 11 #[v] w0 (fun v w' => ∃ (v1 : Value) (M : List E37), v = v1 ∧ M.length ≤ 4 ∧ (∀ r ∈ M, validR r) ∧ Sat w0 w' [.row 37 9 v1 (M).length (cells enc37 (M))]) := by
 obtain ⟨Av, cv, rfl⟩ := Rd.form hv
 refine c_enter (N := 24) (l := [_]) Try.func11 rfl rfl (fun a w hF hS => ?_)
 replace hS := hS.addRo hv
 refine c_seq ?_
 refine c_region ?_
 refine asN hF rfl rfl rfl rfl rfl ?_; clear hF; intro a hF
 refine wpList_nil ?_
 refine then_n ?_
 refine c_seq ?_
 refine c_region ?_
 refine asN hF rfl rfl rfl rfl rfl ?_; clear hF; intro a hF
 refine wpList_nil ?_
 refine then_n ?_
 refine c_seq ?_
 refine c_seq ?_
 refine c_region ?_
 refine asN hF rfl rfl rfl rfl rfl ?_; clear hF; intro a hF
 refine wpList_nil ?_
 refine then_n ?_
 refine wp_block ?_
 replace hS := hS.addNil 37 9
 refine c_loop (fun m a w => ∃ (k : Nat) (M : List E37) (AvM : Option Addr) (cvM : Nat), m = 4 - k ∧ (k ≤ 4 ∧ M.length = k ∧ ∀ r ∈ M, validR r) ∧ Fr 24 a [(0, .slice Av (L).length cv), (2, .slice none 0 0), (3, .slice AvM (M).length cvM), (4, .int .i64 ((k : Nat) : Int))] ∧ Sat w0 w (.ro 1 (.slice Av (L).length cv) (L).length (cells encI (L)) :: .row 37 9 (.slice AvM (M).length cvM) (M).length (cells enc37 (M)) :: [])) (4 - 0) ?_ ?_
 ·exact ⟨0, [], none, 0, rfl, ⟨by omega, rfl, by simp⟩, hF.to [0, 2, 3, 4] rfl, (hS.sub [1, 0] (by decide) (by first | rfl | simp) (by simp))⟩
 ·clear hF hS; try clear hSS
  clear a w; rintro m a w ⟨k, M, AvM, cvM, rfl, hinv, hF, hS⟩
  obtain ⟨hk, hMl, hM⟩ := hinv
  refine c_seq ?_
  refine c_seq ?_
  refine c_region ?_
  refine mvN hF rfl rfl rfl rfl rfl ?_; clear hF; intro a hF
  refine mvN hF rfl rfl rfl rfl rfl ?_; clear hF; intro a hF
  refine seq_yl hF (wn_none rfl) rfl rfl (yl_len hF rfl rfl (fun _ => run_lenRd sl22 (hS.rdRo 0 rfl))) ?_; clear hF; intro a hF
  refine seq_yl hF (wn_none rfl) rfl rfl (yl_bin hF rfl rfl rfl rfl (fun _ => run_lss)) ?_; clear hF; intro a hF
  refine mvN hF rfl rfl rfl rfl rfl ?_; clear hF; intro a hF
  refine fr_split hF (fun hc205 hF => ?_) (fun hc205 hF => ?_)
  ·first | (replace hc205 := of_decide_eq_true hc205) | (replace hc205 := of_decide_eq_false (bnot_t hc205)) | (subst hc205) | (replace hc205 := bnot_t hc205; subst hc205) | (replace hc205 := bnot_t hc205) | skip
   refine seq_yl hF (wn_t hF rfl rfl rfl rfl) rfl rfl (yl_move hF rfl rfl) ?_; clear hF; intro a hF
   refine seq_yl hF (wn_t hF rfl rfl rfl rfl) rfl rfl (yl_bin hF rfl rfl rfl rfl (fun _ => run_lss)) ?_; clear hF; intro a hF
   refine seq_yl hF (wn_none rfl) rfl rfl (pkT hF rfl rfl rfl) ?_; clear hF; intro a hF
   refine wpList_nil ?_
   refine then_n ?_
   refine c_cond hF rfl (fun hc206 => ?_) (fun hc206 => ?_)
   ·first | (replace hc206 := of_decide_eq_true hc206) | (replace hc206 := of_decide_eq_false (bnot_t hc206)) | (subst hc206) | (replace hc206 := bnot_t hc206; subst hc206) | (replace hc206 := bnot_t hc206) | skip
    refine wp_skip ?_
    refine then_n ?_
    refine c_seq ?_
    refine wp_block ?_
    refine c_region ?_
    refine mvN hF rfl rfl rfl rfl rfl ?_; clear hF; intro a hF
    refine mvN hF rfl rfl rfl rfl rfl ?_; clear hF; intro a hF
    refine mvN hF rfl rfl rfl rfl rfl ?_; clear hF; intro a hF
    have hlt_hx207 : k < (L).length := by first | omega | (simp; done) | (simp; omega)
    obtain ⟨ad208, rfl⟩ := rd_some (hS.rdRo 0 rfl) hlt_hx207
    obtain ⟨x207, hx207⟩ := get_some hlt_hx207
    refine seq_yl hF (wn_none rfl) rfl rfl (yl_indexAddr hF rfl rfl rfl (fun _ => run_idx' sl22 sz3 (hS.rdRo 0 rfl) hlt_hx207)) ?_; clear hF; intro a hF
    refine seq_yl hF (wn_none rfl) rfl rfl (yl_loadAt hF rfl rfl ag3 (fun _ h => rd_cell0 (enc := encI) (by subst h; exact hS.rdRo 0 rfl) encI_len hx207 rfl rfl)) ?_; clear hF; intro a hF
    refine seq_wp (wn_none rfl) (wp_call (vs := [_]) hF rfl rfl rfl rfl cf19 (rule_any (x207) _) ?_)
    clear hF; rintro _ w ⟨k209, f210, l211, s212, t213, er214, dn215, hf216, dl217, rfl, hb218, hb219, hb220, hb221, hb222, hb223, hb224, hb225, hS1⟩ a hF
    replace hS := hS.callB hS1 rfl; clear hS1
    refine seq_wp (wn_none rfl) (wp_bslice (parts := [(0, .tmp 20)]) (vs := [(0, _)]) (enc := enc37) (e := 37) (size := 9) (cs := #[.int .i64 (k209), .int .i64 (f210), .int .i64 (l211), .int .i64 (s212), .int .i64 (t213), .int .i64 (er214), .int .i64 (dn215), .bool hf216, .int .i64 (dl217)]) hF hS rfl rfl rfl rfl ([(E37.mk (k209) (f210) (l211) (s212) (t213) (er214) (dn215) hf216 (dl217))] : List E37) (fun w => by kernel_rfl) rfl rfl rfl (by decide) ?_)
    clear hF hS; intro a w v226 hF hS
    obtain ⟨Av226, cv226, rfl⟩ := hS.form 0 rfl
    refine seq_wp (wn_none rfl) (wp_app (enc := enc37) hF hS rfl rfl rfl rfl rfl 2 rfl sl23 inf37 rfl (by decide) (hS.rdRow 0 rfl) enc37_one (by decide) (by first | omega | (simp only [List.length_append, List.length_cons, List.length_nil]; omega) | (simp; omega)) ?_)
    clear hF hS; intro a w v227 hF hS
    obtain ⟨Av227, cv227, rfl⟩ := hS.form 2 rfl
    refine asN hF rfl rfl rfl rfl rfl ?_; clear hF; intro a hF
    refine wpList_nil ?_
    refine inb_n ?_
    refine then_n ?_
    refine c_region ?_
    refine mvN hF rfl rfl rfl rfl rfl ?_; clear hF; intro a hF
    refine seq_yl hF (wn_none rfl) rfl rfl (yl_bin hF rfl rfl rfl rfl (fun _ => run_inc (by omega))) ?_; clear hF; intro a hF
    refine asN hF rfl rfl rfl rfl rfl ?_; clear hF; intro a hF
    refine wpList_nil ?_
    refine then_n ?_
    exact ⟨_, (by omega), k + 1, (M ++ ([(E37.mk (k209) (f210) (l211) (s212) (t213) (er214) (dn215) hf216 (dl217))] : List E37)), Av227, cv227, rfl, ⟨by omega, by rw [List.length_append, List.length_singleton]; omega, all_app hM (by unfold validR; dsimp only; omega)⟩, hF.to [0, 2, 3, 4] rfl, (hS.sub [1, 2] (by decide) (by first | rfl | simp) (by simp))⟩
   ·first | (replace hc206 := of_decide_eq_false hc206) | (replace hc206 := of_decide_eq_true (bnot_f hc206)) | (subst hc206) | (replace hc206 := bnot_f hc206; subst hc206) | (replace hc206 := bnot_f hc206) | skip
    refine wp_exit ?_
    refine then_x ?_
    refine then_x ?_
    refine inb_x ?_
    refine then_n ?_
    refine c_seq ?_
    refine c_region ?_
    refine mvN hF rfl rfl rfl rfl rfl ?_; clear hF; intro a hF
    refine asN hF rfl rfl rfl rfl rfl ?_; clear hF; intro a hF
    refine wpList_nil ?_
    refine then_n ?_
    refine wp_ret ?_
    refine ret_t hF rfl rfl ?_
    exact ⟨_, rfl, _, M, rfl, by omega, hM, (hS.sub [1] (by decide) (by first | rfl | simp) (by simp))⟩
  ·first | (replace hc205 := of_decide_eq_false hc205) | (replace hc205 := of_decide_eq_true (bnot_f hc205)) | (subst hc205) | (replace hc205 := bnot_f hc205; subst hc205) | (replace hc205 := bnot_f hc205) | skip
   refine skF hF rfl rfl rfl rfl rfl rfl ?_; clear hF; intro a hF
   refine skF hF rfl rfl rfl rfl rfl rfl ?_; clear hF; intro a hF
   refine seq_yl hF (wn_none rfl) rfl rfl (pkF hF rfl rfl rfl) ?_; clear hF; intro a hF
   refine wpList_nil ?_
   refine then_n ?_
   refine c_cond_f hF rfl ?_
   refine wp_exit ?_
   refine then_x ?_
   refine then_x ?_
   refine inb_x ?_
   refine then_n ?_
   refine c_seq ?_
   refine c_region ?_
   refine mvN hF rfl rfl rfl rfl rfl ?_; clear hF; intro a hF
   refine asN hF rfl rfl rfl rfl rfl ?_; clear hF; intro a hF
   refine wpList_nil ?_
   refine then_n ?_
   refine wp_ret ?_
   refine ret_t hF rfl rfl ?_
   exact ⟨_, rfl, _, M, rfl, by omega, hM, (hS.sub [1] (by decide) (by first | rfl | simp) (by simp))⟩

set_option maxRecDepth 100000 in
theorem awake_any (w0 : World) :
  Fn Try.prog 18 #[] w0 (fun v w' => v = .bool true ∧ Sat w0 w' []) := by
 refine c_enter (N := 54) (l := []) Try.func18 rfl rfl (fun a w hF hS => ?_)
 refine c_seq ?_
 refine c_region ?_
 refine asN hF rfl rfl rfl rfl rfl ?_; clear hF; intro a hF
 refine wpList_nil ?_
 refine then_n ?_
 refine c_seq ?_
 refine c_region ?_
 refine seq_yl hF (wn_none rfl) rfl rfl (yl_build (parts := [(0, .const (Go.Value.int Go.IntKind.i64 10))]) (vs := [(0, _)]) (cs := [_, _, _, _]) hF bd27 rfl rfl rfl rfl) ?_; clear hF; intro a hF
 refine seq_yl hF (wn_none rfl) rfl rfl (yl_build (parts := [(0, .const (Go.Value.int Go.IntKind.i64 2)), (1, .const (Go.Value.int Go.IntKind.i64 4)), (2, .const (Go.Value.int Go.IntKind.i64 7)), (3, .const (Go.Value.int Go.IntKind.i64 1)), (4, .const (Go.Value.int Go.IntKind.i64 1)), (5, .tmp 8)]) (vs := [(0, _), (1, _), (2, _), (3, _), (4, _), (5, _)]) (cs := [_, _, _, _, _, _, _, _, _]) hF bd37 rfl rfl rfl rfl) ?_; clear hF; intro a hF
 refine seq_wp (wn_none rfl) (wp_bslice (parts := [(0, .tmp 9)]) (vs := [(0, _)]) (enc := enc37) (e := 37) (size := 9) (cs := #[.int .i64 (2 : Int), .int .i64 (4 : Int), .int .i64 (7 : Int), .int .i64 (1 : Int), .int .i64 (1 : Int), .int .i64 (10 : Int), .int .i64 (0 : Int), .bool false, .int .i64 (0 : Int)]) hF hS rfl rfl rfl rfl ([(E37.mk (2 : Int) (4 : Int) (7 : Int) (1 : Int) (1 : Int) (10 : Int) (0 : Int) false (0 : Int))] : List E37) (fun w => by kernel_rfl) rfl rfl rfl (by decide) ?_)
 clear hF hS; intro a w v228 hF hS
 obtain ⟨Av228, cv228, rfl⟩ := hS.form 0 rfl
 refine asN hF rfl rfl rfl rfl rfl ?_; clear hF; intro a hF
 refine wpList_nil ?_
 refine then_n ?_
 refine c_seq ?_
 refine c_region ?_
 refine mvN hF rfl rfl rfl rfl rfl ?_; clear hF; intro a hF
 refine seq_wp (wn_none rfl) (wp_call (vs := [_, _, _, _]) hF rfl rfl rfl rfl cf12 (step_any _ ([(E37.mk (2 : Int) (4 : Int) (7 : Int) (1 : Int) (1 : Int) (10 : Int) (0 : Int) false (0 : Int))] : List E37) (2 : Int) (5 : Int) (1 : Int) _ (hS.rdRow 0 rfl) (by first | omega | (simp; done) | (simp; omega))) ?_)
 clear hF; rintro _ w ⟨v229, L230, er231, dn232, hf233, dl234, rfl, hp235, hS1⟩ a hF
 replace hS := hS.callB hS1 rfl; clear hS1
 obtain ⟨Av229, cv229, rfl⟩ := hS.form 0 rfl
 have hlhp235 := step_len hp235
 have hvhp235 : stepF ([(E37.mk (2 : Int) (4 : Int) (7 : Int) (1 : Int) (1 : Int) (10 : Int) (0 : Int) false (0 : Int))] : List E37) (2 : Int) (5 : Int) (1 : Int) = ([E37.mk 2 4 7 0 1 10 0 false 0], ⟨0, 0, false, 0⟩) := by decide +kernel
 rw [hvhp235] at hp235; injection hp235 with hq1 hq2; injection hq2 with hq3 hq4 hq5 hq6; subst hq1 hq3 hq4 hq5 hq6; clear hvhp235
 refine mvN hF rfl rfl rfl rfl rfl ?_; clear hF; intro a hF
 refine seq_yl hF (wn_none rfl) rfl rfl (yl_extract hF rfl rfl rfl) ?_; clear hF; intro a hF
 refine seq_yl hF (wn_none rfl) rfl rfl (yl_extract hF rfl rfl rfl) ?_; clear hF; intro a hF
 refine seq_wp (wn_none rfl) (wp_alloc (cs := #[_, _, _, _]) hF hS rfl rfl rfl zr27 rfl ?_)
 clear hF hS; intro a w g236 hF hS
 refine asN hF rfl rfl rfl rfl rfl ?_; clear hF; intro a hF
 refine seq_wp (wn_none rfl) (wp_store (cs' := #[_, _, _, _]) hF hS rfl rfl rfl rfl 0 rfl sz27 (by simp [Value.cells, Value.oneCell']) (by simp [Value.cells]) rfl ?_)
 clear hF hS; intro a w hF hS
 refine wpList_nil ?_
 refine then_n ?_
 refine c_seq ?_
 refine c_region ?_
 refine mvN hF rfl rfl rfl rfl rfl ?_; clear hF; intro a hF
 refine seq_wp (wn_none rfl) (wp_call (vs := [_, _, _, _]) hF rfl rfl rfl rfl cf12 (step_any _ [E37.mk 2 4 7 0 1 10 0 false 0] (2 : Int) (7 : Int) (2 : Int) _ (hS.rdRow 1 rfl) (by first | omega | (simp; done) | (simp; omega))) ?_)
 clear hF; rintro _ w ⟨v237, L238, er239, dn240, hf241, dl242, rfl, hp243, hS1⟩ a hF
 replace hS := hS.callB hS1 rfl; clear hS1
 obtain ⟨Av237, cv237, rfl⟩ := hS.form 0 rfl
 have hlhp243 := step_len hp243
 have hvhp243 : stepF [E37.mk 2 4 7 0 1 10 0 false 0] (2 : Int) (7 : Int) (2 : Int) = ([E37.mk 2 4 7 0 0 10 0 false 0], ⟨10, 0, false, 0⟩) := by decide +kernel
 rw [hvhp243] at hp243; injection hp243 with hq1 hq2; injection hq2 with hq3 hq4 hq5 hq6; subst hq1 hq3 hq4 hq5 hq6; clear hvhp243
 refine mvN hF rfl rfl rfl rfl rfl ?_; clear hF; intro a hF
 refine seq_yl hF (wn_none rfl) rfl rfl (yl_extract hF rfl rfl rfl) ?_; clear hF; intro a hF
 refine seq_yl hF (wn_none rfl) rfl rfl (yl_extract hF rfl rfl rfl) ?_; clear hF; intro a hF
 refine seq_wp (wn_none rfl) (wp_alloc (cs := #[_, _, _, _]) hF hS rfl rfl rfl zr27 rfl ?_)
 clear hF hS; intro a w g244 hF hS
 refine asN hF rfl rfl rfl rfl rfl ?_; clear hF; intro a hF
 refine seq_wp (wn_none rfl) (wp_store (cs' := #[_, _, _, _]) hF hS rfl rfl rfl rfl 0 rfl sz27 (by simp [Value.cells, Value.oneCell']) (by simp [Value.cells]) rfl ?_)
 clear hF hS; intro a w hF hS
 refine wpList_nil ?_
 refine then_n ?_
 refine c_seq ?_
 refine c_region ?_
 refine mvN hF rfl rfl rfl rfl rfl ?_; clear hF; intro a hF
 refine seq_wp (wn_none rfl) (wp_call (vs := [_, _, _, _]) hF rfl rfl rfl rfl cf12 (step_any _ [E37.mk 2 4 7 0 0 10 0 false 0] (2 : Int) (4 : Int) (1 : Int) _ (hS.rdRow 1 rfl) (by first | omega | (simp; done) | (simp; omega))) ?_)
 clear hF; rintro _ w ⟨v245, L246, er247, dn248, hf249, dl250, rfl, hp251, hS1⟩ a hF
 replace hS := hS.callB hS1 rfl; clear hS1
 obtain ⟨Av245, cv245, rfl⟩ := hS.form 0 rfl
 have hlhp251 := step_len hp251
 have hvhp251 : stepF [E37.mk 2 4 7 0 0 10 0 false 0] (2 : Int) (4 : Int) (1 : Int) = ([E37.mk 2 4 7 0 0 10 0 false 0], ⟨0, 0, false, 0⟩) := by decide +kernel
 rw [hvhp251] at hp251; injection hp251 with hq1 hq2; injection hq2 with hq3 hq4 hq5 hq6; subst hq1 hq3 hq4 hq5 hq6; clear hvhp251
 refine mvN hF rfl rfl rfl rfl rfl ?_; clear hF; intro a hF
 refine seq_yl hF (wn_none rfl) rfl rfl (yl_extract hF rfl rfl rfl) ?_; clear hF; intro a hF
 refine seq_yl hF (wn_none rfl) rfl rfl (yl_extract hF rfl rfl rfl) ?_; clear hF; intro a hF
 refine seq_wp (wn_none rfl) (wp_alloc (cs := #[_, _, _, _]) hF hS rfl rfl rfl zr27 rfl ?_)
 clear hF hS; intro a w g252 hF hS
 refine asN hF rfl rfl rfl rfl rfl ?_; clear hF; intro a hF
 refine seq_wp (wn_none rfl) (wp_store (cs' := #[_, _, _, _]) hF hS rfl rfl rfl rfl 0 rfl sz27 (by simp [Value.cells, Value.oneCell']) (by simp [Value.cells]) rfl ?_)
 clear hF hS; intro a w hF hS
 refine wpList_nil ?_
 refine then_n ?_
 refine c_seq ?_
 refine c_region ?_
 refine seq_yl hF (wn_none rfl) rfl rfl (yl_fieldAddr hF rfl rfl (fun w => by kernel_rfl : ∀ w, (Instr.fieldAt 27 (.pointer (some ⟨g236, 0, none⟩)) 0).run Try.prog w = .ok (.pointer (some ⟨g236, 0, none⟩)) w)) ?_; clear hF; intro a hF
 refine seq_yl hF (wn_none rfl) rfl rfl (yl_load (fun _ h => h ▸ hS) hF rfl rfl 4 rfl ag25 rfl) ?_; clear hF; intro a hF
 refine seq_yl hF (wn_none rfl) rfl rfl (yl_bin hF rfl rfl rfl rfl (fun _ => run_eql)) ?_; clear hF; intro a hF
 replace hF := fr_set (b' := true) hF (by decide)
 refine mvN hF rfl rfl rfl rfl rfl ?_; clear hF; intro a hF
 refine seq_yl hF (wn_t hF rfl rfl rfl rfl) rfl rfl (yl_fieldAddr hF rfl rfl (fun w => by kernel_rfl : ∀ w, (Instr.fieldAt 27 (.pointer (some ⟨g244, 0, none⟩)) 0).run Try.prog w = .ok (.pointer (some ⟨g244, 0, none⟩)) w)) ?_; clear hF; intro a hF
 refine seq_yl hF (wn_t hF rfl rfl rfl rfl) rfl rfl (yl_load (fun _ h => h ▸ hS) hF rfl rfl 2 rfl ag25 rfl) ?_; clear hF; intro a hF
 refine seq_yl hF (wn_t hF rfl rfl rfl rfl) rfl rfl (yl_bin hF rfl rfl rfl rfl (fun _ => run_eql)) ?_; clear hF; intro a hF
 replace hF := fr_set (b' := true) hF (by decide)
 refine seq_yl hF (wn_none rfl) rfl rfl (pkT hF rfl rfl rfl) ?_; clear hF; intro a hF
 refine mvN hF rfl rfl rfl rfl rfl ?_; clear hF; intro a hF
 refine seq_yl hF (wn_t hF rfl rfl rfl rfl) rfl rfl (yl_fieldAddr hF rfl rfl (fun w => by kernel_rfl : ∀ w, (Instr.fieldAt 27 (.pointer (some ⟨g252, 0, none⟩)) 0).run Try.prog w = .ok (.pointer (some ⟨g252, 0, none⟩)) w)) ?_; clear hF; intro a hF
 refine seq_yl hF (wn_t hF rfl rfl rfl rfl) rfl rfl (yl_load (fun _ h => h ▸ hS) hF rfl rfl 0 rfl ag25 rfl) ?_; clear hF; intro a hF
 refine seq_yl hF (wn_t hF rfl rfl rfl rfl) rfl rfl (yl_bin hF rfl rfl rfl rfl (fun _ => run_eql)) ?_; clear hF; intro a hF
 replace hF := fr_set (b' := true) hF (by decide)
 refine seq_yl hF (wn_none rfl) rfl rfl (pkT hF rfl rfl rfl) ?_; clear hF; intro a hF
 refine mvN hF rfl rfl rfl rfl rfl ?_; clear hF; intro a hF
 refine seq_yl hF (wn_t hF rfl rfl rfl rfl) rfl rfl (yl_move hF rfl rfl) ?_; clear hF; intro a hF
 refine seq_wp (wn_t hF rfl rfl rfl rfl) (wp_call (vs := [_]) hF rfl rfl rfl rfl cf16 (quiet_any _ [E37.mk 2 4 7 0 0 10 0 false 0] _ (hS.rdRow 1 rfl) (by first | omega | (simp; done) | (simp; omega))) ?_)
 clear hF; rintro _ w ⟨rfl, hS1⟩ a hF
 replace hS := hS.callB hS1 rfl; clear hS1
 replace hF := fr_set (b' := true) hF (by decide)
 refine seq_yl hF (wn_none rfl) rfl rfl (pkT hF rfl rfl rfl) ?_; clear hF; intro a hF
 refine mvN hF rfl rfl rfl rfl rfl ?_; clear hF; intro a hF
 refine seq_yl hF (wn_t hF rfl rfl rfl rfl) rfl rfl (yl_move hF rfl rfl) ?_; clear hF; intro a hF
 refine seq_wp (wn_t hF rfl rfl rfl rfl) (wp_call (vs := [_]) hF rfl rfl rfl rfl cf16 (quiet_any _ [E37.mk 2 4 7 0 1 10 0 false 0] _ (hS.rdRow 5 rfl) (by first | omega | (simp; done) | (simp; omega))) ?_)
 clear hF; rintro _ w ⟨rfl, hS1⟩ a hF
 replace hS := hS.callB hS1 rfl; clear hS1
 replace hF := fr_set (b' := false) hF (by decide)
 refine seq_yl hF (wn_t hF rfl rfl rfl rfl) rfl rfl (yl_un hF rfl rfl (fun _ => run_not)) ?_; clear hF; intro a hF
 refine seq_yl hF (wn_none rfl) rfl rfl (pkT hF rfl rfl rfl) ?_; clear hF; intro a hF
 refine mvN hF rfl rfl rfl rfl rfl ?_; clear hF; intro a hF
 refine seq_yl hF (wn_t hF rfl rfl rfl rfl) rfl rfl (yl_move hF rfl rfl) ?_; clear hF; intro a hF
 have hlt_hx253 : 0 < (([(E37.mk (2 : Int) (4 : Int) (7 : Int) (1 : Int) (1 : Int) (10 : Int) (0 : Int) false (0 : Int))] : List E37)).length := by first | omega | (simp; done) | (simp; omega)
 obtain ⟨ad254, rfl⟩ := rd_some (hS.rdRow 6 rfl) hlt_hx253
 obtain ⟨x253, hx253⟩ := get_some hlt_hx253
 refine seq_yl hF (wn_t hF rfl rfl rfl rfl) rfl rfl (yl_indexAddr hF rfl rfl rfl (fun _ => run_idx' (k := 0) sl23 sz37 (hS.rdRow 6 rfl) hlt_hx253)) ?_; clear hF; intro a hF
 refine seq_yl hF (wn_t hF rfl rfl rfl rfl) rfl rfl (yl_loadEl (rs := [.int .i64 (x253.f0), .int .i64 (x253.f1), .int .i64 (x253.f2), .int .i64 (x253.f3), .int .i64 (x253.f4), .int .i64 (x253.f5), .int .i64 (x253.f6), .bool x253.f7, .int .i64 (x253.f8)]) hF rfl rfl ag37 sz37 rfl (fun _ h => rd_cells (enc := enc37) (by subst h; exact hS.rdRow 6 rfl) enc37_len hx253)) ?_; clear hF; intro a hF
 refine seq_wp (wn_t hF rfl rfl rfl rfl) (wp_call (vs := [_]) hF rfl rfl rfl rfl cf23 (valid_any x253 _) ?_)
 clear hF; rintro _ w ⟨rfl, hS1⟩ a hF
 replace hS := hS.callB hS1 rfl; clear hS1
 replace hF := fr_set (b' := true) hF (by have h9 := hx253; simp at h9; subst h9; decide)
 refine seq_yl hF (wn_none rfl) rfl rfl (pkT hF rfl rfl rfl) ?_; clear hF; intro a hF
 refine asN hF rfl rfl rfl rfl rfl ?_; clear hF; intro a hF
 refine wpList_nil ?_
 refine then_n ?_
 refine wp_ret ?_
 refine ret_t hF rfl rfl ?_
 exact ⟨_, rfl, rfl, (hS.sub [] (by decide) (by first | rfl | simp) (by simp))⟩

end Go.Proofs.Ytkejcnhfbfgphaa

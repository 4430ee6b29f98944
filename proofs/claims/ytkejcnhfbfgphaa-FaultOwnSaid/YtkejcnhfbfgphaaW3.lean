/- walks, printed by wip/gen -/
import Derived.Test.YtkejcnhfbfgphaaW2
namespace Go.Proofs.Ytkejcnhfbfgphaa
open Go.RowKit
set_option linter.unusedVariables false
set_option linter.unusedSimpArgs false

set_option maxHeartbeats 1000000 in
set_option maxRecDepth 100000 in
theorem step_any (v : Value) (L : List E37) (k s c : Int) (w0 : World) (hv : Rd w0 9 v (L).length (cells enc37 (L))) (hL : L.length ≤ 100000) :
  Fn Try.prog 12 #[v, .int .i64 k, .int .i64 s, .int .i64 c] w0 (fun v w' => ∃ (v1 : Value) (L1 : List E37) (er dn : Int) (hf : Bool) (dl : Int), v = .tuple #[v1, .agg #[.int .i64 er, .int .i64 dn, .bool hf, .int .i64 dl]] ∧ stepF L k s c = (L1, ⟨er, dn, hf, dl⟩) ∧ Sat w0 w' [.row 37 9 v1 (L1).length (cells enc37 (L1))]) := by
 obtain ⟨Av, cv, rfl⟩ := Rd.form hv
 refine c_enter (N := 83) (l := [_, _, _, _]) Try.func12 rfl rfl (fun a w hF hS => ?_)
 replace hS := hS.addRo hv
 refine c_seq ?_
 refine c_region ?_
 refine asN hF rfl rfl rfl rfl rfl ?_; clear hF; intro a hF
 refine seq_wp (wn_none rfl) (wp_alloc (cs := #[_, _, _, _]) hF hS rfl rfl rfl zr27 rfl ?_)
 clear hF hS; intro a w g175 hF hS
 refine wpList_nil ?_
 refine then_n ?_
 refine c_seq ?_
 refine c_region ?_
 refine mvN hF rfl rfl rfl rfl rfl ?_; clear hF; intro a hF
 refine seq_wp (wn_none rfl) (wp_call (vs := [_]) hF rfl rfl rfl rfl cf33 (cloneR_any _ _ _ (hS.rdRo 1 rfl) (by first | omega | (simp; done) | (simp; omega))) ?_)
 clear hF; rintro _ w ⟨v176, rfl, hS1⟩ a hF
 replace hS := hS.callB hS1 rfl; clear hS1
 obtain ⟨Av176, cv176, rfl⟩ := hS.form 0 rfl
 refine asN hF rfl rfl rfl rfl rfl ?_; clear hF; intro a hF
 refine wpList_nil ?_
 refine then_n ?_
 refine c_seq ?_
 refine c_seq ?_
 refine c_region ?_
 refine mvN hF rfl rfl rfl rfl rfl ?_; clear hF; intro a hF
 refine seq_wp (wn_none rfl) (wp_call (vs := [_]) hF rfl rfl rfl rfl cf34 (script_any _ L _ (hS.rdRow 0 rfl) (by first | omega | (simp; done) | (simp; omega))) ?_)
 clear hF; rintro _ w ⟨rfl, hS1⟩ a hF
 replace hS := hS.callB hS1 rfl; clear hS1
 refine seq_yl hF (wn_none rfl) rfl rfl (yl_un hF rfl rfl (fun _ => run_not)) ?_; clear hF; intro a hF
 refine wpList_nil ?_
 refine then_n ?_
 refine c_cond hF rfl (fun hc177 => ?_) (fun hc177 => ?_)
 ·first | (replace hc177 := of_decide_eq_true hc177) | (replace hc177 := of_decide_eq_false (bnot_t hc177)) | (subst hc177) | (replace hc177 := bnot_t hc177; subst hc177) | (replace hc177 := bnot_t hc177) | skip
  refine c_seq ?_
  refine c_region ?_
  refine mvN hF rfl rfl rfl rfl rfl ?_; clear hF; intro a hF
  refine seq_yl hF (wn_none rfl) rfl rfl (yl_build (parts := []) (vs := []) (cs := [_, _, _, _]) hF bd27 rfl rfl rfl rfl) ?_; clear hF; intro a hF
  refine asN hF rfl rfl rfl rfl rfl ?_; clear hF; intro a hF
  refine seq_wp (wn_none rfl) (wp_store (cs' := #[_, _, _, _]) hF hS rfl rfl rfl rfl 1 rfl sz27 (by simp [Value.cells, Value.oneCell']) (by simp [Value.cells]) rfl ?_)
  clear hF hS; intro a w hF hS
  refine wpList_nil ?_
  refine then_n ?_
  refine wp_ret ?_
  refine then_r ?_
  refine ret_tc hF rfl (resC hS rfl 1 rfl ag27 sz27) rfl ?_
  exact ⟨_, rfl, _, _, (0 : Int), (0 : Int), false, (0 : Int), rfl, step_bad (by assumption), (hS.sub [0] (by decide) (by first | rfl | simp) (by simp))⟩
 ·first | (replace hc177 := of_decide_eq_false hc177) | (replace hc177 := of_decide_eq_true (bnot_f hc177)) | (subst hc177) | (replace hc177 := bnot_f hc177; subst hc177) | (replace hc177 := bnot_f hc177) | skip
  refine wp_skip ?_
  refine then_n ?_
  refine c_seq ?_
  refine c_seq ?_
  refine c_region ?_
  refine mvN hF rfl rfl rfl rfl rfl ?_; clear hF; intro a hF
  refine seq_yl hF (wn_none rfl) rfl rfl (yl_len hF rfl rfl (fun _ => run_lenRd sl23 (hS.rdRow 0 rfl))) ?_; clear hF; intro a hF
  refine mvN hF rfl rfl rfl rfl rfl ?_; clear hF; intro a hF
  refine wpList_nil ?_
  refine then_n ?_
  refine wp_block ?_
  obtain ⟨hval, hl16⟩ := script_inv (by assumption)
  refine c_loop (fun m a w => ∃ (i : Nat) (Pf : List E37) (AvW : Option Addr) (mv cvW : Nat), m = L.length - i ∧ (Go L k s c Pf i) ∧ Fr 83 a [(0, .slice AvW mv cvW), (1, .int .i64 (k)), (2, .int .i64 (s)), (3, .int .i64 (c)), (9, .pointer (some ⟨g175, 0, none⟩)), (20, .int .i64 (((L).length : Nat) : Int)), (21, .int .i64 ((i : Nat) : Int))] ∧ Sat w0 w (.box g175 27 #[.int .i64 (0 : Int), .int .i64 (0 : Int), .bool false, .int .i64 (0 : Int)] :: .ro 9 (.slice Av (L).length cv) (L).length (cells enc37 (L)) :: .row 37 9 (.slice AvW mv cvW) ((Pf ++ L.drop i)).length (cells enc37 ((Pf ++ L.drop i))) :: [])) (L.length - 0) ?_ ?_
  ·exact ⟨0, [], Av176, _, cv176, rfl, go_zero, hF.to [0, 1, 2, 3, 9, 20, 21] rfl, (hS.sub [1, 2, 0] (by decide) (by first | rfl | simp) (by simp))⟩
  ·clear hF hS; try clear hSS
   clear a w; rintro m a w ⟨i, Pf, AvW, mv, cvW, rfl, hinv, hF, hS⟩
   have hgo := hinv
   have hgl := go_len hgo
   have hgi := hgo.le
   refine c_seq ?_
   refine c_region ?_
   refine seq_yl hF (wn_none rfl) rfl rfl (yl_bin hF rfl rfl rfl rfl (fun _ => run_lss)) ?_; clear hF; intro a hF
   refine wpList_nil ?_
   refine then_n ?_
   refine c_seq ?_
   refine c_cond hF rfl (fun hc178 => ?_) (fun hc178 => ?_)
   ·first | (replace hc178 := of_decide_eq_true hc178) | (replace hc178 := of_decide_eq_false (bnot_t hc178)) | (subst hc178) | (replace hc178 := bnot_t hc178; subst hc178) | (replace hc178 := bnot_t hc178) | skip
    refine wp_skip ?_
    refine then_n ?_
    refine c_seq ?_
    refine wp_block ?_
    refine c_seq ?_
    refine c_region ?_
    refine mvN hF rfl rfl rfl rfl rfl ?_; clear hF; intro a hF
    refine asN hF rfl rfl rfl rfl rfl ?_; clear hF; intro a hF
    refine wpList_nil ?_
    refine then_n ?_
    refine c_seq ?_
    refine c_region ?_
    refine mvN hF rfl rfl rfl rfl rfl ?_; clear hF; intro a hF
    refine mvN hF rfl rfl rfl rfl rfl ?_; clear hF; intro a hF
    have hlt_hx179 : i < ((Pf ++ L.drop i)).length := by rw [go_len hgo]; omega
    obtain ⟨ad180, rfl⟩ := rd_some (hS.rdRow 2 rfl) hlt_hx179
    obtain ⟨x179, hx179⟩ := get_some hlt_hx179
    refine seq_yl hF (wn_none rfl) rfl rfl (yl_indexAddr hF rfl rfl rfl (fun _ => run_idx' sl23 sz37 (hS.rdRow 2 rfl) hlt_hx179)) ?_; clear hF; intro a hF
    refine asN hF rfl rfl rfl rfl rfl ?_; clear hF; intro a hF
    refine wpList_nil ?_
    refine then_n ?_
    refine wp_block ?_
    refine c_seq ?_
    refine c_region ?_
    refine mvN hF rfl rfl rfl rfl rfl ?_; clear hF; intro a hF
    refine seq_yl hF (wn_none rfl) rfl rfl (yl_nilCheck hF rfl rfl) ?_; clear hF; intro a hF
    refine seq_yl hF (wn_none rfl) rfl rfl (yl_loadEl (rs := [.int .i64 (x179.f0), .int .i64 (x179.f1), .int .i64 (x179.f2), .int .i64 (x179.f3), .int .i64 (x179.f4), .int .i64 (x179.f5), .int .i64 (x179.f6), .bool x179.f7, .int .i64 (x179.f8)]) hF rfl rfl ag37 sz37 rfl (fun _ h => rd_cells (enc := enc37) (by subst h; exact hS.rdRow 2 rfl) enc37_len hx179)) ?_; clear hF; intro a hF
    have hvx := go_mem (by assumption) hgo hx179; unfold validR at hvx
    refine mvN hF rfl rfl rfl rfl rfl ?_; clear hF; intro a hF
    refine mvN hF rfl rfl rfl rfl rfl ?_; clear hF; intro a hF
    refine mvN hF rfl rfl rfl rfl rfl ?_; clear hF; intro a hF
    refine seq_wp (wn_none rfl) (wp_call (vs := [_, _, _, _]) hF rfl rfl rfl rfl cf25 (match_any x179 (k) (s) (c) _) ?_)
    clear hF; rintro _ w ⟨rfl, hS1⟩ a hF
    replace hS := hS.callB hS1 rfl; clear hS1
    refine seq_yl hF (wn_none rfl) rfl rfl (yl_un hF rfl rfl (fun _ => run_not)) ?_; clear hF; intro a hF
    refine mvN hF rfl rfl rfl rfl rfl ?_; clear hF; intro a hF
    refine fr_split hF (fun hc181 hF => ?_) (fun hc181 hF => ?_)
    ·first | (replace hc181 := of_decide_eq_true hc181) | (replace hc181 := of_decide_eq_false (bnot_t hc181)) | (subst hc181) | (replace hc181 := bnot_t hc181; subst hc181) | (replace hc181 := bnot_t hc181) | skip
     refine skF hF rfl rfl rfl rfl rfl rfl ?_; clear hF; intro a hF
     refine skF hF rfl rfl rfl rfl rfl rfl ?_; clear hF; intro a hF
     refine skF hF rfl rfl rfl rfl rfl rfl ?_; clear hF; intro a hF
     refine skF hF rfl rfl rfl rfl rfl rfl ?_; clear hF; intro a hF
     refine skF hF rfl rfl rfl rfl rfl rfl ?_; clear hF; intro a hF
     refine skF hF rfl rfl rfl rfl rfl rfl ?_; clear hF; intro a hF
     refine seq_skip hF (wn_u hF rfl rfl rfl rfl) rfl rfl ?_; clear hF; intro a hF
     refine seq_skip hF (wn_u hF rfl rfl rfl rfl) rfl rfl ?_; clear hF; intro a hF
     refine seq_skip hF (wn_u hF rfl rfl rfl rfl) rfl rfl ?_; clear hF; intro a hF
     refine seq_skip hF (wn_u hF rfl rfl rfl rfl) rfl rfl ?_; clear hF; intro a hF
     refine seq_skip hF (wn_u hF rfl rfl rfl rfl) rfl rfl ?_; clear hF; intro a hF
     refine skF hF rfl rfl rfl rfl rfl rfl ?_; clear hF; intro a hF
     refine seq_yl hF (wn_none rfl) rfl rfl (pkT hF rfl rfl rfl) ?_; clear hF; intro a hF
     refine asN hF rfl rfl rfl rfl rfl ?_; clear hF; intro a hF
     refine wpList_nil ?_
     refine then_n ?_
     refine c_cond_t hF rfl ?_
     refine wp_skip ?_
     refine inb_n ?_
     refine inb_n ?_
     refine then_n ?_
     refine c_region ?_
     refine seq_yl hF (wn_none rfl) rfl rfl (yl_bin hF rfl rfl rfl rfl (fun _ => run_inc (by omega))) ?_; clear hF; intro a hF
     refine mvN hF rfl rfl rfl rfl rfl ?_; clear hF; intro a hF
     refine wpList_nil ?_
     refine then_n ?_
     rw [go_same hgo hx179] at hS
     exact ⟨_, (by omega), i + 1, (Pf ++ [x179]), (some ad180), mv, cvW, rfl, go_next (z := x179) hgo hx179 (go_1 (by first | exact .inl (by assumption) | exact .inr ⟨by omega, by omega⟩)), hF.to [0, 1, 2, 3, 9, 20, 21] rfl, (hS.sub [0, 1, 2] (by decide) (by first | rfl | simp) (by simp))⟩
    ·first | (replace hc181 := of_decide_eq_false hc181) | (replace hc181 := of_decide_eq_true (bnot_f hc181)) | (subst hc181) | (replace hc181 := bnot_f hc181; subst hc181) | (replace hc181 := bnot_f hc181) | skip
     refine seq_yl hF (wn_t hF rfl rfl rfl rfl) rfl rfl (yl_move hF rfl rfl) ?_; clear hF; intro a hF
     refine seq_yl hF (wn_t hF rfl rfl rfl rfl) rfl rfl (yl_nilCheck hF rfl rfl) ?_; clear hF; intro a hF
     refine seq_yl hF (wn_t hF rfl rfl rfl rfl) rfl rfl (yl_fieldAddr hF rfl rfl (fun w => run_fa fo37_3)) ?_; clear hF; intro a hF
     refine seq_yl hF (wn_t hF rfl rfl rfl rfl) rfl rfl (yl_loadAt hF rfl rfl ag3 (fun _ h => rd_cell (j := 3) (enc := enc37) (by subst h; exact hS.rdRow 2 rfl) enc37_len hx179 rfl rfl)) ?_; clear hF; intro a hF
     refine seq_yl hF (wn_t hF rfl rfl rfl rfl) rfl rfl (yl_bin hF rfl rfl rfl rfl (fun _ => run_eql)) ?_; clear hF; intro a hF
     refine seq_yl hF (wn_t hF rfl rfl rfl rfl) rfl rfl (yl_move hF rfl rfl) ?_; clear hF; intro a hF
     refine fr_split hF (fun hc182 hF => ?_) (fun hc182 hF => ?_)
     ·first | (replace hc182 := of_decide_eq_true hc182) | (replace hc182 := of_decide_eq_false (bnot_t hc182)) | (subst hc182) | (replace hc182 := bnot_t hc182; subst hc182) | (replace hc182 := bnot_t hc182) | skip
      refine seq_yl hF (wn_t hF rfl rfl rfl rfl) rfl rfl (yl_move hF rfl rfl) ?_; clear hF; intro a hF
      refine seq_yl hF (wn_t hF rfl rfl rfl rfl) rfl rfl (yl_nilCheck hF rfl rfl) ?_; clear hF; intro a hF
      refine seq_yl hF (wn_t hF rfl rfl rfl rfl) rfl rfl (yl_fieldAddr hF rfl rfl (fun w => run_fa fo37_4)) ?_; clear hF; intro a hF
      refine seq_yl hF (wn_t hF rfl rfl rfl rfl) rfl rfl (yl_loadAt hF rfl rfl ag3 (fun _ h => rd_cell (j := 4) (enc := enc37) (by subst h; exact hS.rdRow 2 rfl) enc37_len hx179 rfl rfl)) ?_; clear hF; intro a hF
      refine seq_yl hF (wn_t hF rfl rfl rfl rfl) rfl rfl (yl_bin hF rfl rfl rfl rfl (fun _ => run_eql)) ?_; clear hF; intro a hF
      refine seq_yl hF (wn_t hF rfl rfl rfl rfl) rfl rfl (pkT hF rfl rfl rfl) ?_; clear hF; intro a hF
      refine seq_yl hF (wn_none rfl) rfl rfl (pkF hF rfl rfl rfl) ?_; clear hF; intro a hF
      refine asN hF rfl rfl rfl rfl rfl ?_; clear hF; intro a hF
      refine wpList_nil ?_
      refine then_n ?_
      refine c_cond hF rfl (fun hc183 => ?_) (fun hc183 => ?_)
      ·first | (replace hc183 := of_decide_eq_true hc183) | (replace hc183 := of_decide_eq_false (bnot_t hc183)) | (subst hc183) | (replace hc183 := bnot_t hc183; subst hc183) | (replace hc183 := bnot_t hc183) | skip
       refine wp_skip ?_
       refine inb_n ?_
       refine inb_n ?_
       refine then_n ?_
       refine c_region ?_
       refine seq_yl hF (wn_none rfl) rfl rfl (yl_bin hF rfl rfl rfl rfl (fun _ => run_inc (by omega))) ?_; clear hF; intro a hF
       refine mvN hF rfl rfl rfl rfl rfl ?_; clear hF; intro a hF
       refine wpList_nil ?_
       refine then_n ?_
       rw [go_same hgo hx179] at hS
       exact ⟨_, (by omega), i + 1, (Pf ++ [x179]), (some ad180), mv, cvW, rfl, go_next (z := x179) hgo hx179 (go_1 (by first | exact .inl (by assumption) | exact .inr ⟨by omega, by omega⟩)), hF.to [0, 1, 2, 3, 9, 20, 21] rfl, (hS.sub [0, 1, 2] (by decide) (by first | rfl | simp) (by simp))⟩
      ·first | (replace hc183 := of_decide_eq_false hc183) | (replace hc183 := of_decide_eq_true (bnot_f hc183)) | (subst hc183) | (replace hc183 := bnot_f hc183; subst hc183) | (replace hc183 := bnot_f hc183) | skip
       refine c_seq ?_
       refine c_region ?_
       refine mvN hF rfl rfl rfl rfl rfl ?_; clear hF; intro a hF
       refine seq_yl hF (wn_none rfl) rfl rfl (yl_nilCheck hF rfl rfl) ?_; clear hF; intro a hF
       refine seq_yl hF (wn_none rfl) rfl rfl (yl_fieldAddr hF rfl rfl (fun w => run_fa fo37_3)) ?_; clear hF; intro a hF
       refine seq_yl hF (wn_none rfl) rfl rfl (yl_loadAt hF rfl rfl ag3 (fun _ h => rd_cell (j := 3) (enc := enc37) (by subst h; exact hS.rdRow 2 rfl) enc37_len hx179 rfl rfl)) ?_; clear hF; intro a hF
       refine seq_yl hF (wn_none rfl) rfl rfl (yl_bin hF rfl rfl rfl rfl (fun _ => run_gtr)) ?_; clear hF; intro a hF
       refine asN hF rfl rfl rfl rfl rfl ?_; clear hF; intro a hF
       refine wpList_nil ?_
       refine then_n ?_
       refine c_cond hF rfl (fun hc184 => ?_) (fun hc184 => ?_)
       ·first | (replace hc184 := of_decide_eq_true hc184) | (replace hc184 := of_decide_eq_false (bnot_t hc184)) | (subst hc184) | (replace hc184 := bnot_t hc184; subst hc184) | (replace hc184 := bnot_t hc184) | skip
        refine c_region ?_
        refine mvN hF rfl rfl rfl rfl rfl ?_; clear hF; intro a hF
        refine seq_yl hF (wn_none rfl) rfl rfl (yl_nilCheck hF rfl rfl) ?_; clear hF; intro a hF
        refine seq_yl hF (wn_none rfl) rfl rfl (yl_fieldAddr hF rfl rfl (fun w => run_fa fo37_3)) ?_; clear hF; intro a hF
        refine seq_yl hF (wn_none rfl) rfl rfl (yl_loadAt hF rfl rfl ag3 (fun _ h => rd_cell (j := 3) (enc := enc37) (by subst h; exact hS.rdRow 2 rfl) enc37_len hx179 rfl rfl)) ?_; clear hF; intro a hF
        refine seq_yl hF (wn_none rfl) rfl rfl (yl_bin hF rfl rfl rfl rfl (fun _ => run_sub (by refine ⟨?_, ?_⟩ <;> omega))) ?_; clear hF; intro a hF
        refine seq_yl hF (wn_none rfl) rfl rfl (yl_nilCheck hF rfl rfl) ?_; clear hF; intro a hF
        refine seq_yl hF (wn_none rfl) rfl rfl (yl_fieldAddr hF rfl rfl (fun w => run_fa fo37_3)) ?_; clear hF; intro a hF
        refine seq_wp (wn_none rfl) (wp_storeAt (j := 3) (enc := enc37) (z' := (E37.mk (x179.f0) (x179.f1) (x179.f2) (((x179.f3) - (1 : Int))) (x179.f4) (x179.f5) (x179.f6) x179.f7 (x179.f8))) hF hS rfl rfl rfl rfl 2 rfl sz3 (by simp [Value.cells, Value.oneCell']) enc37_len hx179 (by simp [Value.cells]) rfl ?_)
        clear hF hS; intro a w hF hS
        have hlt_hx185 : i < ((Pf ++ L.drop i).set i (E37.mk (x179.f0) (x179.f1) (x179.f2) (((x179.f3) - (1 : Int))) (x179.f4) (x179.f5) (x179.f6) x179.f7 (x179.f8))).length := by simpa using hlt_hx179
        obtain ⟨x185, hx185, hex185⟩ : ∃ x, ((Pf ++ L.drop i).set i (E37.mk (x179.f0) (x179.f1) (x179.f2) (((x179.f3) - (1 : Int))) (x179.f4) (x179.f5) (x179.f6) x179.f7 (x179.f8)))[i]? = some x ∧ x = (E37.mk (x179.f0) (x179.f1) (x179.f2) (((x179.f3) - (1 : Int))) (x179.f4) (x179.f5) (x179.f6) x179.f7 (x179.f8)) := ⟨_, List.getElem?_set_self hlt_hx179, rfl⟩
        refine wpList_nil ?_
        refine inb_n ?_
        refine inb_n ?_
        refine then_n ?_
        refine c_region ?_
        refine seq_yl hF (wn_none rfl) rfl rfl (yl_bin hF rfl rfl rfl rfl (fun _ => run_inc (by omega))) ?_; clear hF; intro a hF
        refine mvN hF rfl rfl rfl rfl rfl ?_; clear hF; intro a hF
        refine wpList_nil ?_
        refine then_n ?_
        rw [go_set hgo hx179] at hS
        exact ⟨_, (by omega), i + 1, (Pf ++ [(E37.mk (x179.f0) (x179.f1) (x179.f2) (((x179.f3) - (1 : Int))) (x179.f4) (x179.f5) (x179.f6) x179.f7 (x179.f8))]), (some ad180), mv, cvW, rfl, go_next (z := (E37.mk (x179.f0) (x179.f1) (x179.f2) (((x179.f3) - (1 : Int))) (x179.f4) (x179.f5) (x179.f6) x179.f7 (x179.f8))) hgo hx179 (go_2 (by assumption) (by omega)), hF.to [0, 1, 2, 3, 9, 20, 21] rfl, (hS.sub [0, 1, 2] (by decide) (by first | rfl | simp) (by simp))⟩
       ·first | (replace hc184 := of_decide_eq_false hc184) | (replace hc184 := of_decide_eq_true (bnot_f hc184)) | (subst hc184) | (replace hc184 := bnot_f hc184; subst hc184) | (replace hc184 := bnot_f hc184) | skip
        refine c_seq ?_
        refine c_seq ?_
        refine c_region ?_
        refine mvN hF rfl rfl rfl rfl rfl ?_; clear hF; intro a hF
        refine seq_yl hF (wn_none rfl) rfl rfl (yl_nilCheck hF rfl rfl) ?_; clear hF; intro a hF
        refine seq_yl hF (wn_none rfl) rfl rfl (yl_fieldAddr hF rfl rfl (fun w => run_fa fo37_4)) ?_; clear hF; intro a hF
        refine seq_yl hF (wn_none rfl) rfl rfl (yl_loadAt hF rfl rfl ag3 (fun _ h => rd_cell (j := 4) (enc := enc37) (by subst h; exact hS.rdRow 2 rfl) enc37_len hx179 rfl rfl)) ?_; clear hF; intro a hF
        refine seq_yl hF (wn_none rfl) rfl rfl (yl_bin hF rfl rfl rfl rfl (fun _ => run_gtr)) ?_; clear hF; intro a hF
        refine wpList_nil ?_
        refine then_n ?_
        refine c_cond hF rfl (fun hc186 => ?_) (fun hc186 => ?_)
        ·first | (replace hc186 := of_decide_eq_true hc186) | (replace hc186 := of_decide_eq_false (bnot_t hc186)) | (subst hc186) | (replace hc186 := bnot_t hc186; subst hc186) | (replace hc186 := bnot_t hc186) | skip
         refine c_region ?_
         refine mvN hF rfl rfl rfl rfl rfl ?_; clear hF; intro a hF
         refine seq_yl hF (wn_none rfl) rfl rfl (yl_nilCheck hF rfl rfl) ?_; clear hF; intro a hF
         refine seq_yl hF (wn_none rfl) rfl rfl (yl_fieldAddr hF rfl rfl (fun w => run_fa fo37_4)) ?_; clear hF; intro a hF
         refine seq_yl hF (wn_none rfl) rfl rfl (yl_loadAt hF rfl rfl ag3 (fun _ h => rd_cell (j := 4) (enc := enc37) (by subst h; exact hS.rdRow 2 rfl) enc37_len hx179 rfl rfl)) ?_; clear hF; intro a hF
         refine seq_yl hF (wn_none rfl) rfl rfl (yl_bin hF rfl rfl rfl rfl (fun _ => run_sub (by refine ⟨?_, ?_⟩ <;> omega))) ?_; clear hF; intro a hF
         refine seq_yl hF (wn_none rfl) rfl rfl (yl_nilCheck hF rfl rfl) ?_; clear hF; intro a hF
         refine seq_yl hF (wn_none rfl) rfl rfl (yl_fieldAddr hF rfl rfl (fun w => run_fa fo37_4)) ?_; clear hF; intro a hF
         refine seq_wp (wn_none rfl) (wp_storeAt (j := 4) (enc := enc37) (z' := (E37.mk (x179.f0) (x179.f1) (x179.f2) (x179.f3) (((x179.f4) - (1 : Int))) (x179.f5) (x179.f6) x179.f7 (x179.f8))) hF hS rfl rfl rfl rfl 2 rfl sz3 (by simp [Value.cells, Value.oneCell']) enc37_len hx179 (by simp [Value.cells]) rfl ?_)
         clear hF hS; intro a w hF hS
         have hlt_hx187 : i < ((Pf ++ L.drop i).set i (E37.mk (x179.f0) (x179.f1) (x179.f2) (x179.f3) (((x179.f4) - (1 : Int))) (x179.f5) (x179.f6) x179.f7 (x179.f8))).length := by simpa using hlt_hx179
         obtain ⟨x187, hx187, hex187⟩ : ∃ x, ((Pf ++ L.drop i).set i (E37.mk (x179.f0) (x179.f1) (x179.f2) (x179.f3) (((x179.f4) - (1 : Int))) (x179.f5) (x179.f6) x179.f7 (x179.f8)))[i]? = some x ∧ x = (E37.mk (x179.f0) (x179.f1) (x179.f2) (x179.f3) (((x179.f4) - (1 : Int))) (x179.f5) (x179.f6) x179.f7 (x179.f8)) := ⟨_, List.getElem?_set_self hlt_hx179, rfl⟩
         refine wpList_nil ?_
         refine then_n ?_
         refine c_seq ?_
         refine ha_startS hS [2] 7 (by kernel_rfl) ?_; clear hS; intro w hS
         have hSS := hS.sub [2] (by decide) rfl (by simp)
         refine ha_y 0 hF rfl rfl rfl (wn_none rfl) (.inr hSS) (yl_move hF rfl rfl) ?_; clear hF; intro a hF
         refine ha_y 1 hF rfl rfl rfl (wn_none rfl) (.inr hSS) (yl_move hF rfl rfl) ?_; clear hF; intro a hF
         refine ha_y 2 hF rfl rfl rfl (wn_none rfl) (.inr hSS) (yl_nilCheck hF rfl rfl) ?_; clear hF; intro a hF
         refine ha_y 3 hF rfl rfl rfl (wn_none rfl) (.inr hSS) (yl_fieldAddr hF rfl rfl (fun w => run_fa fo37_5)) ?_; clear hF; intro a hF
         refine ha_y 5 hF rfl rfl rfl (wn_none rfl) (.inr hSS) (yl_assign hF rfl rfl) ?_; clear hF; intro a hF
         refine ha_l 4 hF rfl rfl rfl (wn_none rfl) hSS (yl_loadEl (rs := [.int .i64 (x187.f5), .int .i64 (x187.f6), .bool x187.f7, .int .i64 (x187.f8)]) hF rfl rfl ag27 sz27 rfl (fun _ h => rd_cellsJ (enc := enc37) (j := 5) (m := 4) (Sat.rdRow h 0 rfl) enc37_len hx187 rfl)) ?_; clear hF; intro a hF
         refine ha_one 6 (by kernel_rfl) rfl (wn_none rfl) (wp_store (cs' := #[_, _, _, _]) hF hS rfl rfl rfl rfl 0 rfl sz27 (by simp [Value.cells, Value.oneCell']) (by simp [Value.cells]) rfl ?_)
         clear hF hS; intro a w hF hS
         replace hSS := hS.sub [2] (by decide) rfl (by simp)
         refine ⟨.inr hSS, ?_⟩
         refine ha_done (by kernel_rfl) ?_ _
         refine then_n ?_
         refine wp_ret ?_
         refine inb_r ?_
         refine inb_r ?_
         refine then_r ?_
         refine then_r ?_
         refine inb_r ?_
         refine then_r ?_
         refine ret_tc hF rfl (resC hS rfl 0 rfl ag27 sz27) rfl ?_
         exact ⟨_, rfl, _, _, (x187.f5), (x187.f6), x187.f7, (x187.f8), rfl, by rw [hex187]; exact step_3 (x := x179) (by assumption) hgo hx179 (by assumption) (by omega) (by omega), (hS.sub [2] (by decide) (by first | rfl | simp) (by simp))⟩
        ·first | (replace hc186 := of_decide_eq_false hc186) | (replace hc186 := of_decide_eq_true (bnot_f hc186)) | (subst hc186) | (replace hc186 := bnot_f hc186; subst hc186) | (replace hc186 := bnot_f hc186) | skip
         refine wp_skip ?_
         refine then_n ?_
         refine c_seq ?_
         refine ha_startS hS [2] 7 (by kernel_rfl) ?_; clear hS; intro w hS
         have hSS := hS.sub [2] (by decide) rfl (by simp)
         refine ha_y 0 hF rfl rfl rfl (wn_none rfl) (.inr hSS) (yl_move hF rfl rfl) ?_; clear hF; intro a hF
         refine ha_y 1 hF rfl rfl rfl (wn_none rfl) (.inr hSS) (yl_move hF rfl rfl) ?_; clear hF; intro a hF
         refine ha_y 2 hF rfl rfl rfl (wn_none rfl) (.inr hSS) (yl_nilCheck hF rfl rfl) ?_; clear hF; intro a hF
         refine ha_y 3 hF rfl rfl rfl (wn_none rfl) (.inr hSS) (yl_fieldAddr hF rfl rfl (fun w => run_fa fo37_5)) ?_; clear hF; intro a hF
         refine ha_y 5 hF rfl rfl rfl (wn_none rfl) (.inr hSS) (yl_assign hF rfl rfl) ?_; clear hF; intro a hF
         refine ha_l 4 hF rfl rfl rfl (wn_none rfl) hSS (yl_loadEl (rs := [.int .i64 (x179.f5), .int .i64 (x179.f6), .bool x179.f7, .int .i64 (x179.f8)]) hF rfl rfl ag27 sz27 rfl (fun _ h => rd_cellsJ (enc := enc37) (j := 5) (m := 4) (Sat.rdRow h 0 rfl) enc37_len hx179 rfl)) ?_; clear hF; intro a hF
         refine ha_one 6 (by kernel_rfl) rfl (wn_none rfl) (wp_store (cs' := #[_, _, _, _]) hF hS rfl rfl rfl rfl 0 rfl sz27 (by simp [Value.cells, Value.oneCell']) (by simp [Value.cells]) rfl ?_)
         clear hF hS; intro a w hF hS
         replace hSS := hS.sub [2] (by decide) rfl (by simp)
         refine ⟨.inr hSS, ?_⟩
         refine ha_done (by kernel_rfl) ?_ _
         refine then_n ?_
         refine wp_ret ?_
         refine inb_r ?_
         refine inb_r ?_
         refine then_r ?_
         refine then_r ?_
         refine inb_r ?_
         refine then_r ?_
         refine ret_tc hF rfl (resC hS rfl 0 rfl ag27 sz27) rfl ?_
         exact ⟨_, rfl, _, _, (x179.f5), (x179.f6), x179.f7, (x179.f8), rfl, step_4 (x := x179) (by assumption) hgo hx179 (by assumption) (by omega) (by omega), (hS.sub [2] (by decide) (by first | rfl | simp) (by simp))⟩
     ·first | (replace hc182 := of_decide_eq_false hc182) | (replace hc182 := of_decide_eq_true (bnot_f hc182)) | (subst hc182) | (replace hc182 := bnot_f hc182; subst hc182) | (replace hc182 := bnot_f hc182) | skip
      refine skF hF rfl rfl rfl rfl rfl rfl ?_; clear hF; intro a hF
      refine skF hF rfl rfl rfl rfl rfl rfl ?_; clear hF; intro a hF
      refine skF hF rfl rfl rfl rfl rfl rfl ?_; clear hF; intro a hF
      refine skF hF rfl rfl rfl rfl rfl rfl ?_; clear hF; intro a hF
      refine skF hF rfl rfl rfl rfl rfl rfl ?_; clear hF; intro a hF
      refine seq_yl hF (wn_t hF rfl rfl rfl rfl) rfl rfl (pkF hF rfl rfl rfl) ?_; clear hF; intro a hF
      refine seq_yl hF (wn_none rfl) rfl rfl (pkF hF rfl rfl rfl) ?_; clear hF; intro a hF
      refine asN hF rfl rfl rfl rfl rfl ?_; clear hF; intro a hF
      refine wpList_nil ?_
      refine then_n ?_
      refine c_cond_f hF rfl ?_
      refine c_seq ?_
      refine c_region ?_
      refine mvN hF rfl rfl rfl rfl rfl ?_; clear hF; intro a hF
      refine seq_yl hF (wn_none rfl) rfl rfl (yl_nilCheck hF rfl rfl) ?_; clear hF; intro a hF
      refine seq_yl hF (wn_none rfl) rfl rfl (yl_fieldAddr hF rfl rfl (fun w => run_fa fo37_3)) ?_; clear hF; intro a hF
      refine seq_yl hF (wn_none rfl) rfl rfl (yl_loadAt hF rfl rfl ag3 (fun _ h => rd_cell (j := 3) (enc := enc37) (by subst h; exact hS.rdRow 2 rfl) enc37_len hx179 rfl rfl)) ?_; clear hF; intro a hF
      refine seq_yl hF (wn_none rfl) rfl rfl (yl_bin hF rfl rfl rfl rfl (fun _ => run_gtr)) ?_; clear hF; intro a hF
      refine asN hF rfl rfl rfl rfl rfl ?_; clear hF; intro a hF
      refine wpList_nil ?_
      refine then_n ?_
      refine c_cond hF rfl (fun hc188 => ?_) (fun hc188 => ?_)
      ·first | (replace hc188 := of_decide_eq_true hc188) | (replace hc188 := of_decide_eq_false (bnot_t hc188)) | (subst hc188) | (replace hc188 := bnot_t hc188; subst hc188) | (replace hc188 := bnot_t hc188) | skip
       refine c_region ?_
       refine mvN hF rfl rfl rfl rfl rfl ?_; clear hF; intro a hF
       refine seq_yl hF (wn_none rfl) rfl rfl (yl_nilCheck hF rfl rfl) ?_; clear hF; intro a hF
       refine seq_yl hF (wn_none rfl) rfl rfl (yl_fieldAddr hF rfl rfl (fun w => run_fa fo37_3)) ?_; clear hF; intro a hF
       refine seq_yl hF (wn_none rfl) rfl rfl (yl_loadAt hF rfl rfl ag3 (fun _ h => rd_cell (j := 3) (enc := enc37) (by subst h; exact hS.rdRow 2 rfl) enc37_len hx179 rfl rfl)) ?_; clear hF; intro a hF
       refine seq_yl hF (wn_none rfl) rfl rfl (yl_bin hF rfl rfl rfl rfl (fun _ => run_sub (by refine ⟨?_, ?_⟩ <;> omega))) ?_; clear hF; intro a hF
       refine seq_yl hF (wn_none rfl) rfl rfl (yl_nilCheck hF rfl rfl) ?_; clear hF; intro a hF
       refine seq_yl hF (wn_none rfl) rfl rfl (yl_fieldAddr hF rfl rfl (fun w => run_fa fo37_3)) ?_; clear hF; intro a hF
       refine seq_wp (wn_none rfl) (wp_storeAt (j := 3) (enc := enc37) (z' := (E37.mk (x179.f0) (x179.f1) (x179.f2) (((x179.f3) - (1 : Int))) (x179.f4) (x179.f5) (x179.f6) x179.f7 (x179.f8))) hF hS rfl rfl rfl rfl 2 rfl sz3 (by simp [Value.cells, Value.oneCell']) enc37_len hx179 (by simp [Value.cells]) rfl ?_)
       clear hF hS; intro a w hF hS
       have hlt_hx189 : i < ((Pf ++ L.drop i).set i (E37.mk (x179.f0) (x179.f1) (x179.f2) (((x179.f3) - (1 : Int))) (x179.f4) (x179.f5) (x179.f6) x179.f7 (x179.f8))).length := by simpa using hlt_hx179
       obtain ⟨x189, hx189, hex189⟩ : ∃ x, ((Pf ++ L.drop i).set i (E37.mk (x179.f0) (x179.f1) (x179.f2) (((x179.f3) - (1 : Int))) (x179.f4) (x179.f5) (x179.f6) x179.f7 (x179.f8)))[i]? = some x ∧ x = (E37.mk (x179.f0) (x179.f1) (x179.f2) (((x179.f3) - (1 : Int))) (x179.f4) (x179.f5) (x179.f6) x179.f7 (x179.f8)) := ⟨_, List.getElem?_set_self hlt_hx179, rfl⟩
       refine wpList_nil ?_
       refine inb_n ?_
       refine inb_n ?_
       refine then_n ?_
       refine c_region ?_
       refine seq_yl hF (wn_none rfl) rfl rfl (yl_bin hF rfl rfl rfl rfl (fun _ => run_inc (by omega))) ?_; clear hF; intro a hF
       refine mvN hF rfl rfl rfl rfl rfl ?_; clear hF; intro a hF
       refine wpList_nil ?_
       refine then_n ?_
       rw [go_set hgo hx179] at hS
       exact ⟨_, (by omega), i + 1, (Pf ++ [(E37.mk (x179.f0) (x179.f1) (x179.f2) (((x179.f3) - (1 : Int))) (x179.f4) (x179.f5) (x179.f6) x179.f7 (x179.f8))]), (some ad180), mv, cvW, rfl, go_next (z := (E37.mk (x179.f0) (x179.f1) (x179.f2) (((x179.f3) - (1 : Int))) (x179.f4) (x179.f5) (x179.f6) x179.f7 (x179.f8))) hgo hx179 (go_2 (by assumption) (by omega)), hF.to [0, 1, 2, 3, 9, 20, 21] rfl, (hS.sub [0, 1, 2] (by decide) (by first | rfl | simp) (by simp))⟩
      ·first | (replace hc188 := of_decide_eq_false hc188) | (replace hc188 := of_decide_eq_true (bnot_f hc188)) | (subst hc188) | (replace hc188 := bnot_f hc188; subst hc188) | (replace hc188 := bnot_f hc188) | skip
       refine c_seq ?_
       refine c_seq ?_
       refine c_region ?_
       refine mvN hF rfl rfl rfl rfl rfl ?_; clear hF; intro a hF
       refine seq_yl hF (wn_none rfl) rfl rfl (yl_nilCheck hF rfl rfl) ?_; clear hF; intro a hF
       refine seq_yl hF (wn_none rfl) rfl rfl (yl_fieldAddr hF rfl rfl (fun w => run_fa fo37_4)) ?_; clear hF; intro a hF
       refine seq_yl hF (wn_none rfl) rfl rfl (yl_loadAt hF rfl rfl ag3 (fun _ h => rd_cell (j := 4) (enc := enc37) (by subst h; exact hS.rdRow 2 rfl) enc37_len hx179 rfl rfl)) ?_; clear hF; intro a hF
       refine seq_yl hF (wn_none rfl) rfl rfl (yl_bin hF rfl rfl rfl rfl (fun _ => run_gtr)) ?_; clear hF; intro a hF
       refine wpList_nil ?_
       refine then_n ?_
       refine c_cond hF rfl (fun hc190 => ?_) (fun hc190 => ?_)
       ·first | (replace hc190 := of_decide_eq_true hc190) | (replace hc190 := of_decide_eq_false (bnot_t hc190)) | (subst hc190) | (replace hc190 := bnot_t hc190; subst hc190) | (replace hc190 := bnot_t hc190) | skip
        refine c_region ?_
        refine mvN hF rfl rfl rfl rfl rfl ?_; clear hF; intro a hF
        refine seq_yl hF (wn_none rfl) rfl rfl (yl_nilCheck hF rfl rfl) ?_; clear hF; intro a hF
        refine seq_yl hF (wn_none rfl) rfl rfl (yl_fieldAddr hF rfl rfl (fun w => run_fa fo37_4)) ?_; clear hF; intro a hF
        refine seq_yl hF (wn_none rfl) rfl rfl (yl_loadAt hF rfl rfl ag3 (fun _ h => rd_cell (j := 4) (enc := enc37) (by subst h; exact hS.rdRow 2 rfl) enc37_len hx179 rfl rfl)) ?_; clear hF; intro a hF
        refine seq_yl hF (wn_none rfl) rfl rfl (yl_bin hF rfl rfl rfl rfl (fun _ => run_sub (by refine ⟨?_, ?_⟩ <;> omega))) ?_; clear hF; intro a hF
        refine seq_yl hF (wn_none rfl) rfl rfl (yl_nilCheck hF rfl rfl) ?_; clear hF; intro a hF
        refine seq_yl hF (wn_none rfl) rfl rfl (yl_fieldAddr hF rfl rfl (fun w => run_fa fo37_4)) ?_; clear hF; intro a hF
        refine seq_wp (wn_none rfl) (wp_storeAt (j := 4) (enc := enc37) (z' := (E37.mk (x179.f0) (x179.f1) (x179.f2) (x179.f3) (((x179.f4) - (1 : Int))) (x179.f5) (x179.f6) x179.f7 (x179.f8))) hF hS rfl rfl rfl rfl 2 rfl sz3 (by simp [Value.cells, Value.oneCell']) enc37_len hx179 (by simp [Value.cells]) rfl ?_)
        clear hF hS; intro a w hF hS
        have hlt_hx191 : i < ((Pf ++ L.drop i).set i (E37.mk (x179.f0) (x179.f1) (x179.f2) (x179.f3) (((x179.f4) - (1 : Int))) (x179.f5) (x179.f6) x179.f7 (x179.f8))).length := by simpa using hlt_hx179
        obtain ⟨x191, hx191, hex191⟩ : ∃ x, ((Pf ++ L.drop i).set i (E37.mk (x179.f0) (x179.f1) (x179.f2) (x179.f3) (((x179.f4) - (1 : Int))) (x179.f5) (x179.f6) x179.f7 (x179.f8)))[i]? = some x ∧ x = (E37.mk (x179.f0) (x179.f1) (x179.f2) (x179.f3) (((x179.f4) - (1 : Int))) (x179.f5) (x179.f6) x179.f7 (x179.f8)) := ⟨_, List.getElem?_set_self hlt_hx179, rfl⟩
        refine wpList_nil ?_
        refine then_n ?_
        refine c_seq ?_
        refine ha_startS hS [2] 7 (by kernel_rfl) ?_; clear hS; intro w hS
        have hSS := hS.sub [2] (by decide) rfl (by simp)
        refine ha_y 0 hF rfl rfl rfl (wn_none rfl) (.inr hSS) (yl_move hF rfl rfl) ?_; clear hF; intro a hF
        refine ha_y 1 hF rfl rfl rfl (wn_none rfl) (.inr hSS) (yl_move hF rfl rfl) ?_; clear hF; intro a hF
        refine ha_y 2 hF rfl rfl rfl (wn_none rfl) (.inr hSS) (yl_nilCheck hF rfl rfl) ?_; clear hF; intro a hF
        refine ha_y 3 hF rfl rfl rfl (wn_none rfl) (.inr hSS) (yl_fieldAddr hF rfl rfl (fun w => run_fa fo37_5)) ?_; clear hF; intro a hF
        refine ha_y 5 hF rfl rfl rfl (wn_none rfl) (.inr hSS) (yl_assign hF rfl rfl) ?_; clear hF; intro a hF
        refine ha_l 4 hF rfl rfl rfl (wn_none rfl) hSS (yl_loadEl (rs := [.int .i64 (x191.f5), .int .i64 (x191.f6), .bool x191.f7, .int .i64 (x191.f8)]) hF rfl rfl ag27 sz27 rfl (fun _ h => rd_cellsJ (enc := enc37) (j := 5) (m := 4) (Sat.rdRow h 0 rfl) enc37_len hx191 rfl)) ?_; clear hF; intro a hF
        refine ha_one 6 (by kernel_rfl) rfl (wn_none rfl) (wp_store (cs' := #[_, _, _, _]) hF hS rfl rfl rfl rfl 0 rfl sz27 (by simp [Value.cells, Value.oneCell']) (by simp [Value.cells]) rfl ?_)
        clear hF hS; intro a w hF hS
        replace hSS := hS.sub [2] (by decide) rfl (by simp)
        refine ⟨.inr hSS, ?_⟩
        refine ha_done (by kernel_rfl) ?_ _
        refine then_n ?_
        refine wp_ret ?_
        refine inb_r ?_
        refine inb_r ?_
        refine then_r ?_
        refine then_r ?_
        refine inb_r ?_
        refine then_r ?_
        refine ret_tc hF rfl (resC hS rfl 0 rfl ag27 sz27) rfl ?_
        exact ⟨_, rfl, _, _, (x191.f5), (x191.f6), x191.f7, (x191.f8), rfl, by rw [hex191]; exact step_3 (x := x179) (by assumption) hgo hx179 (by assumption) (by omega) (by omega), (hS.sub [2] (by decide) (by first | rfl | simp) (by simp))⟩
       ·first | (replace hc190 := of_decide_eq_false hc190) | (replace hc190 := of_decide_eq_true (bnot_f hc190)) | (subst hc190) | (replace hc190 := bnot_f hc190; subst hc190) | (replace hc190 := bnot_f hc190) | skip
        refine wp_skip ?_
        refine then_n ?_
        refine c_seq ?_
        refine ha_startS hS [2] 7 (by kernel_rfl) ?_; clear hS; intro w hS
        have hSS := hS.sub [2] (by decide) rfl (by simp)
        refine ha_y 0 hF rfl rfl rfl (wn_none rfl) (.inr hSS) (yl_move hF rfl rfl) ?_; clear hF; intro a hF
        refine ha_y 1 hF rfl rfl rfl (wn_none rfl) (.inr hSS) (yl_move hF rfl rfl) ?_; clear hF; intro a hF
        refine ha_y 2 hF rfl rfl rfl (wn_none rfl) (.inr hSS) (yl_nilCheck hF rfl rfl) ?_; clear hF; intro a hF
        refine ha_y 3 hF rfl rfl rfl (wn_none rfl) (.inr hSS) (yl_fieldAddr hF rfl rfl (fun w => run_fa fo37_5)) ?_; clear hF; intro a hF
        refine ha_y 5 hF rfl rfl rfl (wn_none rfl) (.inr hSS) (yl_assign hF rfl rfl) ?_; clear hF; intro a hF
        refine ha_l 4 hF rfl rfl rfl (wn_none rfl) hSS (yl_loadEl (rs := [.int .i64 (x179.f5), .int .i64 (x179.f6), .bool x179.f7, .int .i64 (x179.f8)]) hF rfl rfl ag27 sz27 rfl (fun _ h => rd_cellsJ (enc := enc37) (j := 5) (m := 4) (Sat.rdRow h 0 rfl) enc37_len hx179 rfl)) ?_; clear hF; intro a hF
        refine ha_one 6 (by kernel_rfl) rfl (wn_none rfl) (wp_store (cs' := #[_, _, _, _]) hF hS rfl rfl rfl rfl 0 rfl sz27 (by simp [Value.cells, Value.oneCell']) (by simp [Value.cells]) rfl ?_)
        clear hF hS; intro a w hF hS
        replace hSS := hS.sub [2] (by decide) rfl (by simp)
        refine ⟨.inr hSS, ?_⟩
        refine ha_done (by kernel_rfl) ?_ _
        refine then_n ?_
        refine wp_ret ?_
        refine inb_r ?_
        refine inb_r ?_
        refine then_r ?_
        refine then_r ?_
        refine inb_r ?_
        refine then_r ?_
        refine ret_tc hF rfl (resC hS rfl 0 rfl ag27 sz27) rfl ?_
        exact ⟨_, rfl, _, _, (x179.f5), (x179.f6), x179.f7, (x179.f8), rfl, step_4 (x := x179) (by assumption) hgo hx179 (by assumption) (by omega) (by omega), (hS.sub [2] (by decide) (by first | rfl | simp) (by simp))⟩
   ·first | (replace hc178 := of_decide_eq_false hc178) | (replace hc178 := of_decide_eq_true (bnot_f hc178)) | (subst hc178) | (replace hc178 := bnot_f hc178; subst hc178) | (replace hc178 := bnot_f hc178) | skip
    refine wp_exit ?_
    refine then_x ?_
    refine then_x ?_
    refine inb_x ?_
    refine then_n ?_
    refine c_seq ?_
    refine c_region ?_
    refine mvN hF rfl rfl rfl rfl rfl ?_; clear hF; intro a hF
    refine seq_yl hF (wn_none rfl) rfl rfl (yl_build (parts := []) (vs := []) (cs := [_, _, _, _]) hF bd27 rfl rfl rfl rfl) ?_; clear hF; intro a hF
    refine asN hF rfl rfl rfl rfl rfl ?_; clear hF; intro a hF
    refine seq_wp (wn_none rfl) (wp_store (cs' := #[_, _, _, _]) hF hS rfl rfl rfl rfl 0 rfl sz27 (by simp [Value.cells, Value.oneCell']) (by simp [Value.cells]) rfl ?_)
    clear hF hS; intro a w hF hS
    refine wpList_nil ?_
    refine then_n ?_
    refine wp_ret ?_
    refine ret_tc hF rfl (resC hS rfl 0 rfl ag27 sz27) rfl ?_
    exact ⟨_, rfl, _, _, (0 : Int), (0 : Int), false, (0 : Int), rfl, step_end (by assumption) hgo (by omega), (hS.sub [2] (by decide) (by first | rfl | simp) (by simp))⟩

set_option maxHeartbeats 1000000 in
set_option maxRecDepth 100000 in
theorem step2_any (v : Value) (L : List E37) (k s c : Int) (w0 : World) (hv : Rd w0 9 v (L).length (cells enc37 (L))) (hL : L.length ≤ 100000) :
  Fn Try.prog 14 #[v, .int .i64 k, .int .i64 s, .int .i64 c] w0 (fun v w' => ∃ (v1 : Value) (L1 : List E37) (er dn : Int) (hf : Bool) (dl : Int), v = .tuple #[v1, .agg #[.int .i64 er, .int .i64 dn, .bool hf, .int .i64 dl]] ∧ stepF L k s c = (L1, ⟨er, dn, hf, dl⟩) ∧ Sat w0 w' [.row 37 9 v1 (L1).length (cells enc37 (L1))]) := by
 obtain ⟨Av, cv, rfl⟩ := Rd.form hv
 refine c_enter (N := 69) (l := [_, _, _, _]) Try.func14 rfl rfl (fun a w hF hS => ?_)
 replace hS := hS.addRo hv
 refine c_seq ?_
 refine c_region ?_
 refine asN hF rfl rfl rfl rfl rfl ?_; clear hF; intro a hF
 refine seq_wp (wn_none rfl) (wp_alloc (cs := #[_, _, _, _]) hF hS rfl rfl rfl zr27 rfl ?_)
 clear hF hS; intro a w g192 hF hS
 refine wpList_nil ?_
 refine then_n ?_
 refine c_seq ?_
 refine c_region ?_
 refine mvN hF rfl rfl rfl rfl rfl ?_; clear hF; intro a hF
 refine seq_wp (wn_none rfl) (wp_app0 (enc := enc37) hF hS rfl rfl rfl rfl rfl sl23 inf37 rfl (by decide) (hS.rdRo 1 rfl) enc37_one (by decide) (by first | omega | (simp only [List.length_append, List.length_cons, List.length_nil]; omega) | (simp; omega)) ?_)
 clear hF hS; intro a w v193 hF hS
 obtain ⟨Av193, cv193, rfl⟩ := hS.form 0 rfl
 refine asN hF rfl rfl rfl rfl rfl ?_; clear hF; intro a hF
 refine wpList_nil ?_
 refine then_n ?_
 refine c_seq ?_
 refine c_seq ?_
 refine c_region ?_
 refine mvN hF rfl rfl rfl rfl rfl ?_; clear hF; intro a hF
 refine seq_wp (wn_none rfl) (wp_call (vs := [_]) hF rfl rfl rfl rfl cf35 (script2_any _ L _ (hS.rdRo 2 rfl) (by first | omega | (simp; done) | (simp; omega))) ?_)
 clear hF; rintro _ w ⟨rfl, hS1⟩ a hF
 replace hS := hS.callB hS1 rfl; clear hS1
 refine seq_yl hF (wn_none rfl) rfl rfl (yl_un hF rfl rfl (fun _ => run_not)) ?_; clear hF; intro a hF
 refine wpList_nil ?_
 refine then_n ?_
 refine c_cond hF rfl (fun hc194 => ?_) (fun hc194 => ?_)
 ·first | (replace hc194 := of_decide_eq_true hc194) | (replace hc194 := of_decide_eq_false (bnot_t hc194)) | (subst hc194) | (replace hc194 := bnot_t hc194; subst hc194) | (replace hc194 := bnot_t hc194) | skip
  refine c_seq ?_
  refine c_region ?_
  refine mvN hF rfl rfl rfl rfl rfl ?_; clear hF; intro a hF
  refine seq_yl hF (wn_none rfl) rfl rfl (yl_build (parts := []) (vs := []) (cs := [_, _, _, _]) hF bd27 rfl rfl rfl rfl) ?_; clear hF; intro a hF
  refine asN hF rfl rfl rfl rfl rfl ?_; clear hF; intro a hF
  refine seq_wp (wn_none rfl) (wp_store (cs' := #[_, _, _, _]) hF hS rfl rfl rfl rfl 1 rfl sz27 (by simp [Value.cells, Value.oneCell']) (by simp [Value.cells]) rfl ?_)
  clear hF hS; intro a w hF hS
  refine wpList_nil ?_
  refine then_n ?_
  refine wp_ret ?_
  refine then_r ?_
  refine ret_tc hF rfl (resC hS rfl 1 rfl ag27 sz27) rfl ?_
  exact ⟨_, rfl, _, _, (0 : Int), (0 : Int), false, (0 : Int), rfl, step_bad (by assumption), (hS.sub [0] (by decide) (by first | rfl | simp) (by simp))⟩
 ·first | (replace hc194 := of_decide_eq_false hc194) | (replace hc194 := of_decide_eq_true (bnot_f hc194)) | (subst hc194) | (replace hc194 := bnot_f hc194; subst hc194) | (replace hc194 := bnot_f hc194) | skip
  refine wp_skip ?_
  refine then_n ?_
  refine c_seq ?_
  refine c_seq ?_
  refine c_region ?_
  refine asN hF rfl rfl rfl rfl rfl ?_; clear hF; intro a hF
  refine wpList_nil ?_
  refine then_n ?_
  refine wp_block ?_
  obtain ⟨hval, hl16⟩ := script_inv (by assumption)
  refine c_loop (fun m a w => ∃ (i : Nat) (Pf : List E37) (AvW : Option Addr) (mv cvW : Nat), m = L.length - i ∧ (Go L k s c Pf i) ∧ Fr 69 a [(1, .int .i64 (k)), (2, .int .i64 (s)), (3, .int .i64 (c)), (9, .pointer (some ⟨g192, 0, none⟩)), (10, .slice AvW mv cvW), (11, .int .i64 ((i : Nat) : Int))] ∧ Sat w0 w (.box g192 27 #[.int .i64 (0 : Int), .int .i64 (0 : Int), .bool false, .int .i64 (0 : Int)] :: .ro 9 (.slice Av (L).length cv) (L).length (cells enc37 (L)) :: .row 37 9 (.slice AvW mv cvW) ((Pf ++ L.drop i)).length (cells enc37 ((Pf ++ L.drop i))) :: [])) (L.length - 0) ?_ ?_
  ·exact ⟨0, [], Av193, _, cv193, rfl, go_zero, hF.to [1, 2, 3, 9, 10, 11] rfl, (hS.sub [1, 2, 0] (by decide) (by first | rfl | simp) (by simp))⟩
  ·clear hF hS; try clear hSS
   clear a w; rintro m a w ⟨i, Pf, AvW, mv, cvW, rfl, hinv, hF, hS⟩
   have hgo := hinv
   have hgl := go_len hgo
   have hgi := hgo.le
   refine c_seq ?_
   refine c_seq ?_
   refine c_region ?_
   refine mvN hF rfl rfl rfl rfl rfl ?_; clear hF; intro a hF
   refine mvN hF rfl rfl rfl rfl rfl ?_; clear hF; intro a hF
   refine seq_yl hF (wn_none rfl) rfl rfl (yl_len hF rfl rfl (fun _ => run_lenRd sl23 (hS.rdRow 2 rfl))) ?_; clear hF; intro a hF
   refine seq_yl hF (wn_none rfl) rfl rfl (yl_bin hF rfl rfl rfl rfl (fun _ => run_lss)) ?_; clear hF; intro a hF
   refine wpList_nil ?_
   refine then_n ?_
   refine c_cond hF rfl (fun hc195 => ?_) (fun hc195 => ?_)
   ·first | (replace hc195 := of_decide_eq_true hc195) | (replace hc195 := of_decide_eq_false (bnot_t hc195)) | (subst hc195) | (replace hc195 := bnot_t hc195; subst hc195) | (replace hc195 := bnot_t hc195) | skip
    refine wp_skip ?_
    refine then_n ?_
    refine c_seq ?_
    refine wp_block ?_
    refine c_seq ?_
    refine c_region ?_
    refine mvN hF rfl rfl rfl rfl rfl ?_; clear hF; intro a hF
    refine mvN hF rfl rfl rfl rfl rfl ?_; clear hF; intro a hF
    have hlt_hx196 : i < ((Pf ++ L.drop i)).length := by rw [go_len hgo]; omega
    obtain ⟨ad197, rfl⟩ := rd_some (hS.rdRow 2 rfl) hlt_hx196
    obtain ⟨x196, hx196⟩ := get_some hlt_hx196
    refine seq_yl hF (wn_none rfl) rfl rfl (yl_indexAddr hF rfl rfl rfl (fun _ => run_idx' sl23 sz37 (hS.rdRow 2 rfl) hlt_hx196)) ?_; clear hF; intro a hF
    refine seq_yl hF (wn_none rfl) rfl rfl (yl_loadEl (rs := [.int .i64 (x196.f0), .int .i64 (x196.f1), .int .i64 (x196.f2), .int .i64 (x196.f3), .int .i64 (x196.f4), .int .i64 (x196.f5), .int .i64 (x196.f6), .bool x196.f7, .int .i64 (x196.f8)]) hF rfl rfl ag37 sz37 rfl (fun _ h => rd_cells (enc := enc37) (by subst h; exact hS.rdRow 2 rfl) enc37_len hx196)) ?_; clear hF; intro a hF
    refine seq_wp (wn_none rfl) (wp_alloc (cs := #[_, _, _, _, _, _, _, _, _]) hF hS rfl rfl rfl zr37 rfl ?_)
    clear hF hS; intro a w g198 hF hS
    refine seq_wp (wn_none rfl) (wp_store (cs' := #[_, _, _, _, _, _, _, _, _]) hF hS rfl rfl rfl rfl 0 rfl sz37 (by simp [Value.cells, Value.oneCell']) (by simp [Value.cells]) rfl ?_)
    clear hF hS; intro a w hF hS
    refine wpList_nil ?_
    refine then_n ?_
    refine wp_block ?_
    refine c_seq ?_
    refine c_region ?_
    refine seq_yl hF (wn_none rfl) rfl rfl (yl_loadK (rs := [_, _, _, _, _, _, _, _, _]) (fun _ h => h ▸ hS) hF rfl rfl 0 rfl ag37 sz37 rfl rfl) ?_; clear hF; intro a hF
    have hvx := go_mem (by assumption) hgo hx196; unfold validR at hvx
    refine mvN hF rfl rfl rfl rfl rfl ?_; clear hF; intro a hF
    refine mvN hF rfl rfl rfl rfl rfl ?_; clear hF; intro a hF
    refine mvN hF rfl rfl rfl rfl rfl ?_; clear hF; intro a hF
    refine seq_wp (wn_none rfl) (wp_call (vs := [_, _, _, _]) hF rfl rfl rfl rfl cf26 (match2_any x196 (k) (s) (c) _) ?_)
    clear hF; rintro _ w ⟨rfl, hS1⟩ a hF
    replace hS := hS.callB hS1 rfl; clear hS1
    refine seq_yl hF (wn_none rfl) rfl rfl (yl_un hF rfl rfl (fun _ => run_not)) ?_; clear hF; intro a hF
    refine asN hF rfl rfl rfl rfl rfl ?_; clear hF; intro a hF
    refine wpList_nil ?_
    refine then_n ?_
    refine c_cond hF rfl (fun hc199 => ?_) (fun hc199 => ?_)
    ·first | (replace hc199 := of_decide_eq_true hc199) | (replace hc199 := of_decide_eq_false (bnot_t hc199)) | (subst hc199) | (replace hc199 := bnot_t hc199; subst hc199) | (replace hc199 := bnot_t hc199) | skip
     refine wp_skip ?_
     refine inb_n ?_
     refine inb_n ?_
     refine then_n ?_
     refine c_region ?_
     refine mvN hF rfl rfl rfl rfl rfl ?_; clear hF; intro a hF
     refine seq_yl hF (wn_none rfl) rfl rfl (yl_bin hF rfl rfl rfl rfl (fun _ => run_inc (by omega))) ?_; clear hF; intro a hF
     refine asN hF rfl rfl rfl rfl rfl ?_; clear hF; intro a hF
     refine wpList_nil ?_
     refine then_n ?_
     rw [go_same hgo hx196] at hS
     exact ⟨_, (by omega), i + 1, (Pf ++ [x196]), (some ad197), mv, cvW, rfl, go_next (z := x196) hgo hx196 (go_1 (by first | exact .inl (by assumption) | exact .inr ⟨by omega, by omega⟩)), hF.to [1, 2, 3, 9, 10, 11] rfl, (hS.sub [1, 2, 3] (by decide) (by first | rfl | simp) (by simp))⟩
    ·first | (replace hc199 := of_decide_eq_false hc199) | (replace hc199 := of_decide_eq_true (bnot_f hc199)) | (subst hc199) | (replace hc199 := bnot_f hc199; subst hc199) | (replace hc199 := bnot_f hc199) | skip
     refine c_seq ?_
     refine c_region ?_
     refine seq_yl hF (wn_none rfl) rfl rfl (yl_fieldAddr hF rfl rfl (fun w => by kernel_rfl : ∀ w, (Instr.fieldAt 37 (.pointer (some ⟨g198, 0, none⟩)) 3).run Try.prog w = .ok (.pointer (some ⟨g198, 3, none⟩)) w)) ?_; clear hF; intro a hF
     refine seq_yl hF (wn_none rfl) rfl rfl (yl_load (fun _ h => h ▸ hS) hF rfl rfl 0 rfl ag3 rfl) ?_; clear hF; intro a hF
     refine seq_yl hF (wn_none rfl) rfl rfl (yl_bin hF rfl rfl rfl rfl (fun _ => run_gtr)) ?_; clear hF; intro a hF
     refine asN hF rfl rfl rfl rfl rfl ?_; clear hF; intro a hF
     refine wpList_nil ?_
     refine then_n ?_
     refine c_cond hF rfl (fun hc200 => ?_) (fun hc200 => ?_)
     ·first | (replace hc200 := of_decide_eq_true hc200) | (replace hc200 := of_decide_eq_false (bnot_t hc200)) | (subst hc200) | (replace hc200 := bnot_t hc200; subst hc200) | (replace hc200 := bnot_t hc200) | skip
      refine c_region ?_
      refine mvN hF rfl rfl rfl rfl rfl ?_; clear hF; intro a hF
      refine mvN hF rfl rfl rfl rfl rfl ?_; clear hF; intro a hF
      refine seq_yl hF (wn_none rfl) rfl rfl (yl_indexAddr hF rfl rfl rfl (fun _ => run_idx' sl23 sz37 (hS.rdRow 3 rfl) hlt_hx196)) ?_; clear hF; intro a hF
      refine seq_yl hF (wn_none rfl) rfl rfl (yl_fieldAddr hF rfl rfl (fun w => run_fa fo37_3)) ?_; clear hF; intro a hF
      refine seq_yl hF (wn_none rfl) rfl rfl (yl_loadAt hF rfl rfl ag3 (fun _ h => rd_cell (j := 3) (enc := enc37) (by subst h; exact hS.rdRow 3 rfl) enc37_len hx196 rfl rfl)) ?_; clear hF; intro a hF
      refine seq_yl hF (wn_none rfl) rfl rfl (yl_bin hF rfl rfl rfl rfl (fun _ => run_sub (by refine ⟨?_, ?_⟩ <;> omega))) ?_; clear hF; intro a hF
      refine seq_yl hF (wn_none rfl) rfl rfl (yl_indexAddr hF rfl rfl rfl (fun _ => run_idx' sl23 sz37 (hS.rdRow 3 rfl) hlt_hx196)) ?_; clear hF; intro a hF
      refine seq_yl hF (wn_none rfl) rfl rfl (yl_fieldAddr hF rfl rfl (fun w => run_fa fo37_3)) ?_; clear hF; intro a hF
      refine seq_wp (wn_none rfl) (wp_storeAt (j := 3) (enc := enc37) (z' := (E37.mk (x196.f0) (x196.f1) (x196.f2) (((x196.f3) - (1 : Int))) (x196.f4) (x196.f5) (x196.f6) x196.f7 (x196.f8))) hF hS rfl rfl rfl rfl 3 rfl sz3 (by simp [Value.cells, Value.oneCell']) enc37_len hx196 (by simp [Value.cells]) rfl ?_)
      clear hF hS; intro a w hF hS
      have hlt_hx201 : i < ((Pf ++ L.drop i).set i (E37.mk (x196.f0) (x196.f1) (x196.f2) (((x196.f3) - (1 : Int))) (x196.f4) (x196.f5) (x196.f6) x196.f7 (x196.f8))).length := by simpa using hlt_hx196
      obtain ⟨x201, hx201, hex201⟩ : ∃ x, ((Pf ++ L.drop i).set i (E37.mk (x196.f0) (x196.f1) (x196.f2) (((x196.f3) - (1 : Int))) (x196.f4) (x196.f5) (x196.f6) x196.f7 (x196.f8)))[i]? = some x ∧ x = (E37.mk (x196.f0) (x196.f1) (x196.f2) (((x196.f3) - (1 : Int))) (x196.f4) (x196.f5) (x196.f6) x196.f7 (x196.f8)) := ⟨_, List.getElem?_set_self hlt_hx196, rfl⟩
      refine wpList_nil ?_
      refine inb_n ?_
      refine inb_n ?_
      refine then_n ?_
      refine c_region ?_
      refine mvN hF rfl rfl rfl rfl rfl ?_; clear hF; intro a hF
      refine seq_yl hF (wn_none rfl) rfl rfl (yl_bin hF rfl rfl rfl rfl (fun _ => run_inc (by omega))) ?_; clear hF; intro a hF
      refine asN hF rfl rfl rfl rfl rfl ?_; clear hF; intro a hF
      refine wpList_nil ?_
      refine then_n ?_
      rw [go_set hgo hx196] at hS
      exact ⟨_, (by omega), i + 1, (Pf ++ [(E37.mk (x196.f0) (x196.f1) (x196.f2) (((x196.f3) - (1 : Int))) (x196.f4) (x196.f5) (x196.f6) x196.f7 (x196.f8))]), (some ad197), mv, cvW, rfl, go_next (z := (E37.mk (x196.f0) (x196.f1) (x196.f2) (((x196.f3) - (1 : Int))) (x196.f4) (x196.f5) (x196.f6) x196.f7 (x196.f8))) hgo hx196 (go_2 (by assumption) (by omega)), hF.to [1, 2, 3, 9, 10, 11] rfl, (hS.sub [1, 2, 3] (by decide) (by first | rfl | simp) (by simp))⟩
     ·first | (replace hc200 := of_decide_eq_false hc200) | (replace hc200 := of_decide_eq_true (bnot_f hc200)) | (subst hc200) | (replace hc200 := bnot_f hc200; subst hc200) | (replace hc200 := bnot_f hc200) | skip
      refine c_seq ?_
      refine c_region ?_
      refine seq_yl hF (wn_none rfl) rfl rfl (yl_fieldAddr hF rfl rfl (fun w => by kernel_rfl : ∀ w, (Instr.fieldAt 37 (.pointer (some ⟨g198, 0, none⟩)) 4).run Try.prog w = .ok (.pointer (some ⟨g198, 4, none⟩)) w)) ?_; clear hF; intro a hF
      refine seq_yl hF (wn_none rfl) rfl rfl (yl_load (fun _ h => h ▸ hS) hF rfl rfl 0 rfl ag3 rfl) ?_; clear hF; intro a hF
      refine seq_yl hF (wn_none rfl) rfl rfl (yl_bin hF rfl rfl rfl rfl (fun _ => run_neq)) ?_; clear hF; intro a hF
      refine asN hF rfl rfl rfl rfl rfl ?_; clear hF; intro a hF
      refine wpList_nil ?_
      refine then_n ?_
      refine c_cond hF rfl (fun hc202 => ?_) (fun hc202 => ?_)
      ·first | (replace hc202 := of_decide_eq_true hc202) | (replace hc202 := of_decide_eq_false (bnot_t hc202)) | (subst hc202) | (replace hc202 := bnot_t hc202; subst hc202) | (replace hc202 := bnot_t hc202) | skip
       refine c_seq ?_
       refine c_seq ?_
       refine c_region ?_
       refine seq_yl hF (wn_none rfl) rfl rfl (yl_fieldAddr hF rfl rfl (fun w => by kernel_rfl : ∀ w, (Instr.fieldAt 37 (.pointer (some ⟨g198, 0, none⟩)) 4).run Try.prog w = .ok (.pointer (some ⟨g198, 4, none⟩)) w)) ?_; clear hF; intro a hF
       refine seq_yl hF (wn_none rfl) rfl rfl (yl_load (fun _ h => h ▸ hS) hF rfl rfl 0 rfl ag3 rfl) ?_; clear hF; intro a hF
       refine seq_yl hF (wn_none rfl) rfl rfl (yl_bin hF rfl rfl rfl rfl (fun _ => run_gtr)) ?_; clear hF; intro a hF
       refine wpList_nil ?_
       refine then_n ?_
       refine c_cond hF rfl (fun hc203 => ?_) (fun hc203 => ?_)
       ·first | (replace hc203 := of_decide_eq_true hc203) | (replace hc203 := of_decide_eq_false (bnot_t hc203)) | (subst hc203) | (replace hc203 := bnot_t hc203; subst hc203) | (replace hc203 := bnot_t hc203) | skip
        refine c_region ?_
        refine mvN hF rfl rfl rfl rfl rfl ?_; clear hF; intro a hF
        refine mvN hF rfl rfl rfl rfl rfl ?_; clear hF; intro a hF
        refine seq_yl hF (wn_none rfl) rfl rfl (yl_indexAddr hF rfl rfl rfl (fun _ => run_idx' sl23 sz37 (hS.rdRow 3 rfl) hlt_hx196)) ?_; clear hF; intro a hF
        refine seq_yl hF (wn_none rfl) rfl rfl (yl_fieldAddr hF rfl rfl (fun w => run_fa fo37_4)) ?_; clear hF; intro a hF
        refine seq_yl hF (wn_none rfl) rfl rfl (yl_loadAt hF rfl rfl ag3 (fun _ h => rd_cell (j := 4) (enc := enc37) (by subst h; exact hS.rdRow 3 rfl) enc37_len hx196 rfl rfl)) ?_; clear hF; intro a hF
        refine seq_yl hF (wn_none rfl) rfl rfl (yl_bin hF rfl rfl rfl rfl (fun _ => run_sub (by refine ⟨?_, ?_⟩ <;> omega))) ?_; clear hF; intro a hF
        refine seq_yl hF (wn_none rfl) rfl rfl (yl_indexAddr hF rfl rfl rfl (fun _ => run_idx' sl23 sz37 (hS.rdRow 3 rfl) hlt_hx196)) ?_; clear hF; intro a hF
        refine seq_yl hF (wn_none rfl) rfl rfl (yl_fieldAddr hF rfl rfl (fun w => run_fa fo37_4)) ?_; clear hF; intro a hF
        refine seq_wp (wn_none rfl) (wp_storeAt (j := 4) (enc := enc37) (z' := (E37.mk (x196.f0) (x196.f1) (x196.f2) (x196.f3) (((x196.f4) - (1 : Int))) (x196.f5) (x196.f6) x196.f7 (x196.f8))) hF hS rfl rfl rfl rfl 3 rfl sz3 (by simp [Value.cells, Value.oneCell']) enc37_len hx196 (by simp [Value.cells]) rfl ?_)
        clear hF hS; intro a w hF hS
        have hlt_hx204 : i < ((Pf ++ L.drop i).set i (E37.mk (x196.f0) (x196.f1) (x196.f2) (x196.f3) (((x196.f4) - (1 : Int))) (x196.f5) (x196.f6) x196.f7 (x196.f8))).length := by simpa using hlt_hx196
        obtain ⟨x204, hx204, hex204⟩ : ∃ x, ((Pf ++ L.drop i).set i (E37.mk (x196.f0) (x196.f1) (x196.f2) (x196.f3) (((x196.f4) - (1 : Int))) (x196.f5) (x196.f6) x196.f7 (x196.f8)))[i]? = some x ∧ x = (E37.mk (x196.f0) (x196.f1) (x196.f2) (x196.f3) (((x196.f4) - (1 : Int))) (x196.f5) (x196.f6) x196.f7 (x196.f8)) := ⟨_, List.getElem?_set_self hlt_hx196, rfl⟩
        refine wpList_nil ?_
        refine then_n ?_
        refine c_seq ?_
        refine ha_startS hS [0] 5 (by kernel_rfl) ?_; clear hS; intro w hS
        have hSS := hS.sub [0] (by decide) rfl (by simp)
        refine ha_y 0 hF rfl rfl rfl (wn_none rfl) (.inr hSS) (yl_move hF rfl rfl) ?_; clear hF; intro a hF
        refine ha_y 1 hF rfl rfl rfl (wn_none rfl) (.inr hSS) (yl_fieldAddr hF rfl rfl (fun w => by kernel_rfl : ∀ w, (Instr.fieldAt 37 (.pointer (some ⟨g198, 0, none⟩)) 5).run Try.prog w = .ok (.pointer (some ⟨g198, 5, none⟩)) w)) ?_; clear hF; intro a hF
        refine ha_y 3 hF rfl rfl rfl (wn_none rfl) (.inr hSS) (yl_assign hF rfl rfl) ?_; clear hF; intro a hF
        refine ha_l 2 hF rfl rfl rfl (wn_none rfl) hSS (yl_loadK (rs := [_, _, _, _]) (fun _ h => h) hF rfl rfl 0 rfl ag27 sz27 rfl rfl) ?_; clear hF; intro a hF
        refine ha_one 4 (by kernel_rfl) rfl (wn_none rfl) (wp_store (cs' := #[_, _, _, _]) hF hS rfl rfl rfl rfl 1 rfl sz27 (by simp [Value.cells, Value.oneCell']) (by simp [Value.cells]) rfl ?_)
        clear hF hS; intro a w hF hS
        replace hSS := hS.sub [0] (by decide) rfl (by simp)
        refine ⟨.inr hSS, ?_⟩
        refine ha_done (by kernel_rfl) ?_ _
        refine then_n ?_
        refine wp_ret ?_
        refine inb_r ?_
        refine inb_r ?_
        refine then_r ?_
        refine then_r ?_
        refine inb_r ?_
        refine then_r ?_
        refine ret_tc hF rfl (resC hS rfl 1 rfl ag27 sz27) rfl ?_
        exact ⟨_, rfl, _, _, (x196.f5), (x196.f6), x196.f7, (x196.f8), rfl, by exact step_3 (x := x196) (by assumption) hgo hx196 (by assumption) (by omega) (by omega), (hS.sub [3] (by decide) (by first | rfl | simp) (by simp))⟩
       ·first | (replace hc203 := of_decide_eq_false hc203) | (replace hc203 := of_decide_eq_true (bnot_f hc203)) | (subst hc203) | (replace hc203 := bnot_f hc203; subst hc203) | (replace hc203 := bnot_f hc203) | skip
        refine wp_skip ?_
        refine then_n ?_
        refine c_seq ?_
        refine ha_startS hS [0] 5 (by kernel_rfl) ?_; clear hS; intro w hS
        have hSS := hS.sub [0] (by decide) rfl (by simp)
        refine ha_y 0 hF rfl rfl rfl (wn_none rfl) (.inr hSS) (yl_move hF rfl rfl) ?_; clear hF; intro a hF
        refine ha_y 1 hF rfl rfl rfl (wn_none rfl) (.inr hSS) (yl_fieldAddr hF rfl rfl (fun w => by kernel_rfl : ∀ w, (Instr.fieldAt 37 (.pointer (some ⟨g198, 0, none⟩)) 5).run Try.prog w = .ok (.pointer (some ⟨g198, 5, none⟩)) w)) ?_; clear hF; intro a hF
        refine ha_y 3 hF rfl rfl rfl (wn_none rfl) (.inr hSS) (yl_assign hF rfl rfl) ?_; clear hF; intro a hF
        refine ha_l 2 hF rfl rfl rfl (wn_none rfl) hSS (yl_loadK (rs := [_, _, _, _]) (fun _ h => h) hF rfl rfl 0 rfl ag27 sz27 rfl rfl) ?_; clear hF; intro a hF
        refine ha_one 4 (by kernel_rfl) rfl (wn_none rfl) (wp_store (cs' := #[_, _, _, _]) hF hS rfl rfl rfl rfl 1 rfl sz27 (by simp [Value.cells, Value.oneCell']) (by simp [Value.cells]) rfl ?_)
        clear hF hS; intro a w hF hS
        replace hSS := hS.sub [0] (by decide) rfl (by simp)
        refine ⟨.inr hSS, ?_⟩
        refine ha_done (by kernel_rfl) ?_ _
        refine then_n ?_
        refine wp_ret ?_
        refine inb_r ?_
        refine inb_r ?_
        refine then_r ?_
        refine then_r ?_
        refine inb_r ?_
        refine then_r ?_
        refine ret_tc hF rfl (resC hS rfl 1 rfl ag27 sz27) rfl ?_
        exact ⟨_, rfl, _, _, (x196.f5), (x196.f6), x196.f7, (x196.f8), rfl, step_4 (x := x196) (by assumption) hgo hx196 (by assumption) (by omega) (by omega), (hS.sub [3] (by decide) (by first | rfl | simp) (by simp))⟩
      ·first | (replace hc202 := of_decide_eq_false hc202) | (replace hc202 := of_decide_eq_true (bnot_f hc202)) | (subst hc202) | (replace hc202 := bnot_f hc202; subst hc202) | (replace hc202 := bnot_f hc202) | skip
       refine wp_skip ?_
       refine inb_n ?_
       refine inb_n ?_
       refine then_n ?_
       refine c_region ?_
       refine mvN hF rfl rfl rfl rfl rfl ?_; clear hF; intro a hF
       refine seq_yl hF (wn_none rfl) rfl rfl (yl_bin hF rfl rfl rfl rfl (fun _ => run_inc (by omega))) ?_; clear hF; intro a hF
       refine asN hF rfl rfl rfl rfl rfl ?_; clear hF; intro a hF
       refine wpList_nil ?_
       refine then_n ?_
       rw [go_same hgo hx196] at hS
       exact ⟨_, (by omega), i + 1, (Pf ++ [x196]), (some ad197), mv, cvW, rfl, go_next (z := x196) hgo hx196 (go_1 (by first | exact .inl (by assumption) | exact .inr ⟨by omega, by omega⟩)), hF.to [1, 2, 3, 9, 10, 11] rfl, (hS.sub [1, 2, 3] (by decide) (by first | rfl | simp) (by simp))⟩
   ·first | (replace hc195 := of_decide_eq_false hc195) | (replace hc195 := of_decide_eq_true (bnot_f hc195)) | (subst hc195) | (replace hc195 := bnot_f hc195; subst hc195) | (replace hc195 := bnot_f hc195) | skip
    refine wp_exit ?_
    refine then_x ?_
    refine then_x ?_
    refine inb_x ?_
    refine then_n ?_
    refine c_seq ?_
    refine c_region ?_
    refine mvN hF rfl rfl rfl rfl rfl ?_; clear hF; intro a hF
    refine seq_yl hF (wn_none rfl) rfl rfl (yl_build (parts := []) (vs := []) (cs := [_, _, _, _]) hF bd27 rfl rfl rfl rfl) ?_; clear hF; intro a hF
    refine asN hF rfl rfl rfl rfl rfl ?_; clear hF; intro a hF
    refine seq_wp (wn_none rfl) (wp_store (cs' := #[_, _, _, _]) hF hS rfl rfl rfl rfl 0 rfl sz27 (by simp [Value.cells, Value.oneCell']) (by simp [Value.cells]) rfl ?_)
    clear hF hS; intro a w hF hS
    refine wpList_nil ?_
    refine then_n ?_
    refine wp_ret ?_
    refine ret_tc hF rfl (resC hS rfl 0 rfl ag27 sz27) rfl ?_
    exact ⟨_, rfl, _, _, (0 : Int), (0 : Int), false, (0 : Int), rfl, step_end (by assumption) hgo (by omega), (hS.sub [2] (by decide) (by first | rfl | simp) (by simp))⟩

end Go.Proofs.Ytkejcnhfbfgphaa

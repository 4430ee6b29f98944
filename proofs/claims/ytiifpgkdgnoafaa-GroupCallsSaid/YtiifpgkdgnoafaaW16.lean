/- walks, printed by wip/gen -/
import Derived.Test.YtiifpgkdgnoafaaW14
import Derived.Test.YtiifpgkdgnoafaaW15
import Derived.Test.YtiifpgkdgnoafaaW8
import Derived.Test.YtiifpgkdgnoafaaW6
namespace Go.Proofs.Ytiifpgkdgnoafaa
open Go.RowKit
set_option linter.unusedVariables false
set_option linter.unusedSimpArgs false

set_option maxHeartbeats 4000000 in
theorem calls_any (v : Value) (L : List Int) (w0 : World) (hv : Rd w0 1 v (L).length (cells encI (L))) (hL : L.length ≤ maxLen) :
    Fn Try.prog 3 #[v] w0 (fun v w' => v = .bool true ∧ Sat w0 w' []) := by
  simp only [maxLen] at hL
  obtain ⟨Av, cv, rfl⟩ := Rd.form hv
  refine c_enter (N := 147) (l := [_]) Try.func3 rfl rfl (fun a w hF hS => ?_)
  replace hS := hS.addRo hv
  refine c_seq ?_
  refine c_region ?_
  refine seq_yl hF (wn_none rfl) rfl rfl (yl_assign hF rfl rfl) ?_
  clear hF; intro a hF
  refine wpList_nil ?_
  refine then_n ?_
  refine c_seq ?_
  refine c_region ?_
  refine seq_yl hF (wn_none rfl) rfl rfl (yl_move hF rfl rfl) ?_
  clear hF; intro a hF
  refine seq_yl hF (wn_none rfl) rfl rfl (yl_build (parts := [(0, .tmp 19)]) (vs := [(0, _)]) (cs := [_, _]) hF bd25 rfl rfl rfl rfl) ?_
  clear hF; intro a hF
  refine seq_wp (wn_none rfl) (wp_box (cs := #[_, _]) hF hS rfl rfl rfl rfl rfl ?_)
  clear hF hS; intro a w g396 hF hS
  refine seq_yl hF (wn_none rfl) rfl rfl (yl_assign hF rfl rfl) ?_
  clear hF; intro a hF
  refine wpList_nil ?_
  refine then_n ?_
  refine c_seq ?_
  refine c_region ?_
  refine seq_yl hF (wn_none rfl) rfl rfl (yl_move hF rfl rfl) ?_
  clear hF; intro a hF
  refine seq_wp (wn_none rfl) (wp_call (vs := [_]) hF rfl rfl rfl rfl cf8 (groups_any _ _ _ _ _ _ _ (0 : Nat) hS (by omega) (by omega)) ?_)
  clear hF; rintro _ w ⟨v397, G398, it399, rfl, h1G398, h4G398, hRG398, hiit399, hS1⟩ a hF; replace hS := hS1; clear hS1
  obtain ⟨Av397, cv397, rfl⟩ := hS.form 0 rfl
  replace hS := hS.toRo 0 rfl
  refine seq_yl hF (wn_none rfl) rfl rfl (yl_assign hF rfl rfl) ?_
  clear hF; intro a hF
  refine wpList_nil ?_
  refine then_n ?_
  refine c_seq ?_
  refine c_region ?_
  refine seq_yl hF (wn_none rfl) rfl rfl (yl_move hF rfl rfl) ?_
  clear hF; intro a hF
  replace hS := (hS.sub [1, 2, 0] (by decide) (by first | rfl | simp) (by simp))
  refine seq_wp (wn_none rfl) (wp_call (vs := [_, _]) hF rfl rfl rfl rfl cf9 (next_any _ _ _ _ _ _ _ (it399 : Nat) (6 : Int) (by omega) hS (by omega) (by omega)) ?_)
  clear hF; rintro _ w ⟨r400, it401, rfl, hb402, hiit401, hS1⟩ a hF; replace hS := hS1; clear hS1
  refine seq_yl hF (wn_none rfl) rfl rfl (yl_bin hF rfl rfl rfl rfl (fun _ => run_sub (by refine ⟨?_, ?_⟩ <;> omega))) ?_
  clear hF; intro a hF
  refine seq_yl hF (wn_none rfl) rfl rfl (yl_move hF rfl rfl) ?_
  clear hF; intro a hF
  refine seq_wp (wn_none rfl) (wp_call (vs := [_, _]) hF rfl rfl rfl rfl cf9 (next_any _ _ _ _ _ _ _ (it401 : Nat) (30 : Int) (by omega) hS (by omega) (by omega)) ?_)
  clear hF; rintro _ w ⟨r403, it404, rfl, hb405, hiit404, hS1⟩ a hF; replace hS := hS1; clear hS1
  refine seq_yl hF (wn_none rfl) rfl rfl (yl_bin hF rfl rfl rfl rfl (fun _ => run_sub (by refine ⟨?_, ?_⟩ <;> omega))) ?_
  clear hF; intro a hF
  refine seq_yl hF (wn_none rfl) rfl rfl (yl_assign hF rfl rfl) ?_
  clear hF; intro a hF
  refine seq_yl hF (wn_none rfl) rfl rfl (yl_assign hF rfl rfl) ?_
  clear hF; intro a hF
  refine wpList_nil ?_
  refine then_n ?_
  refine c_seq ?_
  refine c_seq ?_
  refine c_region ?_
  refine seq_yl hF (wn_none rfl) rfl rfl (yl_move hF rfl rfl) ?_
  clear hF; intro a hF
  refine seq_wp (wn_none rfl) (wp_call (vs := [_, _]) hF rfl rfl rfl rfl cf9 (next_any _ _ _ _ _ _ _ (it404 : Nat) (9 : Int) (by omega) hS (by omega) (by omega)) ?_)
  clear hF; rintro _ w ⟨r406, it407, rfl, hb408, hiit407, hS1⟩ a hF; replace hS := hS1; clear hS1
  refine seq_yl hF (wn_none rfl) rfl rfl (yl_bin hF rfl rfl rfl rfl (fun _ => run_eql)) ?_
  clear hF; intro a hF
  refine wpList_nil ?_
  refine then_n ?_
  refine c_cond hF rfl (fun hc409 => ?_) (fun hc409 => ?_)
  · first | (replace hc409 := of_decide_eq_true hc409) | (replace hc409 := of_decide_eq_false (bnot_t hc409)) | (subst hc409) | (replace hc409 := bnot_t hc409; subst hc409) | (replace hc409 := bnot_t hc409) | skip
    refine c_region ?_
    refine seq_yl hF (wn_none rfl) rfl rfl (yl_move hF rfl rfl) ?_
    clear hF; intro a hF
    refine seq_wp (wn_none rfl) (wp_call (vs := [_]) hF rfl rfl rfl rfl cf10 (odd_any _ _ _ _ _ _ _ (it407 : Nat) hS (by omega) (by omega)) ?_)
    clear hF; rintro _ w ⟨r410, it411, rfl, hb412, hiit411, hS1⟩ a hF; replace hS := hS1; clear hS1
    refine seq_yl hF (wn_none rfl) rfl rfl (yl_assign hF rfl rfl) ?_
    clear hF; intro a hF
    refine wpList_nil ?_
    refine then_n ?_
    refine c_seq ?_
    refine c_seq ?_
    refine c_region ?_
    refine seq_yl hF (wn_none rfl) rfl rfl (yl_move hF rfl rfl) ?_
    clear hF; intro a hF
    refine seq_yl hF (wn_none rfl) rfl rfl (yl_bin hF rfl rfl rfl rfl (fun _ => run_gtr)) ?_
    clear hF; intro a hF
    refine wpList_nil ?_
    refine then_n ?_
    refine c_cond hF rfl (fun hc413 => ?_) (fun hc413 => ?_)
    · first | (replace hc413 := of_decide_eq_true hc413) | (replace hc413 := of_decide_eq_false (bnot_t hc413)) | (subst hc413) | (replace hc413 := bnot_t hc413; subst hc413) | (replace hc413 := bnot_t hc413) | skip
      refine c_region ?_
      refine seq_yl hF (wn_none rfl) rfl rfl (yl_assign hF rfl rfl) ?_
      clear hF; intro a hF
      refine wpList_nil ?_
      refine then_n ?_
      refine c_seq ?_
      refine c_region ?_
      refine seq_yl hF (wn_none rfl) rfl rfl (yl_move hF rfl rfl) ?_
      clear hF; intro a hF
      refine seq_yl hF (wn_none rfl) rfl rfl (yl_move hF rfl rfl) ?_
      clear hF; intro a hF
      refine seq_yl hF (wn_none rfl) rfl rfl (yl_move hF rfl rfl) ?_
      clear hF; intro a hF
      refine seq_wp (wn_none rfl) (wp_call (vs := [_, _, _]) hF rfl rfl rfl rfl cf11 (charge_any _ G398 (((r400) - (1 : Int))) (65 : Int) _ (hS.rdRo 2 rfl) (by first | omega | (simp; done) | (simp; omega) | (rw [chF_len]; first | omega | (simp; done) | (simp; omega)) | (rw [unF_len]; first | omega | (simp; done) | (simp; omega)))) ?_)
      clear hF; rintro _ w ⟨v414, rfl, hS1⟩ a hF
      replace hS := hS.callB hS1 rfl; clear hS1
      obtain ⟨Av414, cv414, rfl⟩ := hS.form 0 rfl
      refine seq_yl hF (wn_none rfl) rfl rfl (yl_move hF rfl rfl) ?_
      clear hF; intro a hF
      refine seq_yl hF (wn_none rfl) rfl rfl (yl_extract hF rfl rfl rfl) ?_
      clear hF; intro a hF
      refine seq_yl hF (wn_none rfl) rfl rfl (yl_extract hF rfl rfl rfl) ?_
      clear hF; intro a hF
      refine seq_yl hF (wn_none rfl) rfl rfl (yl_assign hF rfl rfl) ?_
      clear hF; intro a hF
      refine seq_yl hF (wn_none rfl) rfl rfl (yl_assign hF rfl rfl) ?_
      clear hF; intro a hF
      refine wpList_nil ?_
      refine then_n ?_
      refine c_seq ?_
      refine c_region ?_
      refine seq_yl hF (wn_none rfl) rfl rfl (yl_move hF rfl rfl) ?_
      clear hF; intro a hF
      refine seq_yl hF (wn_none rfl) rfl rfl (yl_move hF rfl rfl) ?_
      clear hF; intro a hF
      refine seq_yl hF (wn_none rfl) rfl rfl (yl_move hF rfl rfl) ?_
      clear hF; intro a hF
      replace hS := (hS.sub [3, 0, 1, 2] (by decide) (by first | rfl | simp) (by simp))
      refine seq_wp (wn_none rfl) (wp_call (vs := [_, _, _]) hF rfl rfl rfl rfl cf12 (charge2_ro _ _ _ _ G398 (((r400) - (1 : Int))) (65 : Int) hS (by omega)) ?_)
      clear hF; rintro _ w ⟨v415, rfl, hS1⟩ a hF; replace hS := hS1; clear hS1
      obtain ⟨Av415, cv415, rfl⟩ := (hS.rdRo 0 rfl).form
      refine seq_yl hF (wn_none rfl) rfl rfl (yl_move hF rfl rfl) ?_
      clear hF; intro a hF
      refine seq_yl hF (wn_none rfl) rfl rfl (yl_extract hF rfl rfl rfl) ?_
      clear hF; intro a hF
      refine seq_yl hF (wn_none rfl) rfl rfl (yl_extract hF rfl rfl rfl) ?_
      clear hF; intro a hF
      refine seq_yl hF (wn_none rfl) rfl rfl (yl_assign hF rfl rfl) ?_
      clear hF; intro a hF
      refine seq_yl hF (wn_none rfl) rfl rfl (yl_assign hF rfl rfl) ?_
      clear hF; intro a hF
      refine wpList_nil ?_
      refine then_n ?_
      refine c_seq ?_
      refine c_region ?_
      refine seq_yl hF (wn_none rfl) rfl rfl (yl_move hF rfl rfl) ?_
      clear hF; intro a hF
      refine seq_yl hF (wn_none rfl) rfl rfl (yl_move hF rfl rfl) ?_
      clear hF; intro a hF
      refine seq_yl hF (wn_none rfl) rfl rfl (yl_move hF rfl rfl) ?_
      clear hF; intro a hF
      refine seq_wp (wn_none rfl) (wp_call (vs := [_, _, _]) hF rfl rfl rfl rfl cf13 (uncharge_any _ G398 (((r400) - (1 : Int))) (65 : Int) _ (hS.rdRo 1 rfl) (by first | omega | (simp; done) | (simp; omega) | (rw [chF_len]; first | omega | (simp; done) | (simp; omega)) | (rw [unF_len]; first | omega | (simp; done) | (simp; omega)))) ?_)
      clear hF; rintro _ w ⟨v416, rfl, hS1⟩ a hF
      replace hS := hS.callB hS1 rfl; clear hS1
      obtain ⟨Av416, cv416, rfl⟩ := hS.form 0 rfl
      refine seq_yl hF (wn_none rfl) rfl rfl (yl_move hF rfl rfl) ?_
      clear hF; intro a hF
      refine seq_yl hF (wn_none rfl) rfl rfl (yl_extract hF rfl rfl rfl) ?_
      clear hF; intro a hF
      refine seq_yl hF (wn_none rfl) rfl rfl (yl_extract hF rfl rfl rfl) ?_
      clear hF; intro a hF
      refine seq_yl hF (wn_none rfl) rfl rfl (yl_assign hF rfl rfl) ?_
      clear hF; intro a hF
      refine seq_yl hF (wn_none rfl) rfl rfl (yl_assign hF rfl rfl) ?_
      clear hF; intro a hF
      refine wpList_nil ?_
      refine then_n ?_
      refine c_seq ?_
      refine c_region ?_
      refine seq_yl hF (wn_none rfl) rfl rfl (yl_move hF rfl rfl) ?_
      clear hF; intro a hF
      refine seq_yl hF (wn_none rfl) rfl rfl (yl_move hF rfl rfl) ?_
      clear hF; intro a hF
      refine seq_yl hF (wn_none rfl) rfl rfl (yl_move hF rfl rfl) ?_
      clear hF; intro a hF
      replace hS := (hS.sub [2, 0, 1, 3, 4, 5] (by decide) (by first | rfl | simp) (by simp))
      refine seq_wp (wn_none rfl) (wp_call (vs := [_, _, _]) hF rfl rfl rfl rfl cf14 (uncharge2_ro _ _ _ _ G398 (((r400) - (1 : Int))) (65 : Int) hS (by omega)) ?_)
      clear hF; rintro _ w ⟨v417, rfl, hS1⟩ a hF; replace hS := hS1; clear hS1
      obtain ⟨Av417, cv417, rfl⟩ := (hS.rdRo 0 rfl).form
      refine seq_yl hF (wn_none rfl) rfl rfl (yl_move hF rfl rfl) ?_
      clear hF; intro a hF
      refine seq_yl hF (wn_none rfl) rfl rfl (yl_extract hF rfl rfl rfl) ?_
      clear hF; intro a hF
      refine seq_yl hF (wn_none rfl) rfl rfl (yl_extract hF rfl rfl rfl) ?_
      clear hF; intro a hF
      refine seq_yl hF (wn_none rfl) rfl rfl (yl_assign hF rfl rfl) ?_
      clear hF; intro a hF
      refine seq_yl hF (wn_none rfl) rfl rfl (yl_assign hF rfl rfl) ?_
      clear hF; intro a hF
      refine wpList_nil ?_
      refine then_n ?_
      refine c_seq ?_
      refine c_region ?_
      refine seq_yl hF (wn_none rfl) rfl rfl (yl_move hF rfl rfl) ?_
      clear hF; intro a hF
      refine seq_yl hF (wn_none rfl) rfl rfl (yl_move hF rfl rfl) ?_
      clear hF; intro a hF
      have hd419 := divF_len4 G398 (65 : Int)
      refine seq_wp (wn_none rfl) (wp_call (vs := [_, _]) hF rfl rfl rfl rfl cf15 (divide_any _ G398 (65 : Int) (by omega) _ (hS.rdRo 1 rfl) (by first | omega | (simp; done) | (simp; omega) | (rw [chF_len]; first | omega | (simp; done) | (simp; omega)) | (rw [unF_len]; first | omega | (simp; done) | (simp; omega)))) ?_)
      clear hF; rintro _ w ⟨v418, rfl, hS1⟩ a hF
      replace hS := hS.callB hS1 rfl; clear hS1
      obtain ⟨Av418, cv418, rfl⟩ := hS.form 0 rfl
      refine seq_yl hF (wn_none rfl) rfl rfl (yl_move hF rfl rfl) ?_
      clear hF; intro a hF
      refine seq_yl hF (wn_none rfl) rfl rfl (yl_move hF rfl rfl) ?_
      clear hF; intro a hF
      have hd421 := divF_len4 G398 (65 : Int)
      refine seq_wp (wn_none rfl) (wp_call (vs := [_, _]) hF rfl rfl rfl rfl cf16 (divide2_any _ G398 (65 : Int) (by omega) _ (hS.rdRo 2 rfl) (by first | omega | (simp; done) | (simp; omega) | (rw [chF_len]; first | omega | (simp; done) | (simp; omega)) | (rw [unF_len]; first | omega | (simp; done) | (simp; omega)))) ?_)
      clear hF; rintro _ w ⟨v420, rfl, hS1⟩ a hF
      replace hS := hS.callB hS1 rfl; clear hS1
      obtain ⟨Av420, cv420, rfl⟩ := hS.form 0 rfl
      refine seq_yl hF (wn_none rfl) rfl rfl (yl_assign hF rfl rfl) ?_
      clear hF; intro a hF
      refine seq_yl hF (wn_none rfl) rfl rfl (yl_assign hF rfl rfl) ?_
      clear hF; intro a hF
      refine wpList_nil ?_
      refine then_n ?_
      refine c_seq ?_
      refine c_seq ?_
      refine c_region ?_
      refine seq_yl hF (wn_none rfl) rfl rfl (yl_move hF rfl rfl) ?_
      clear hF; intro a hF
      refine seq_yl hF (wn_none rfl) rfl rfl (yl_len hF rfl rfl (fun _ => run_lenRd sl22 (hS.rdRow 1 rfl))) ?_
      clear hF; intro a hF
      refine seq_yl hF (wn_none rfl) rfl rfl (yl_move hF rfl rfl) ?_
      clear hF; intro a hF
      refine seq_yl hF (wn_none rfl) rfl rfl (yl_len hF rfl rfl (fun _ => run_lenRd sl22 (hS.rdRow 0 rfl))) ?_
      clear hF; intro a hF
      refine seq_yl hF (wn_none rfl) rfl rfl (yl_bin hF rfl rfl rfl rfl (fun _ => run_neq)) ?_
      clear hF; intro a hF
      replace hF := fr_set (b' := false) hF (by simp)
      refine wpList_nil ?_
      refine then_n ?_
      refine c_cond_f hF rfl ?_
      refine wp_skip ?_
      refine then_n ?_
      refine c_seq ?_
      refine c_seq ?_
      refine c_region ?_
      refine seq_yl hF (wn_none rfl) rfl rfl (yl_assign hF rfl rfl) ?_
      clear hF; intro a hF
      refine wpList_nil ?_
      refine then_n ?_
      refine wp_block ?_
      refine c_loop (fun m a w => ∃ (p : Nat), m = ((divF G398 (65 : Int))).length - p ∧ (p ≤ ((divF G398 (65 : Int))).length) ∧ Fr 147 a [(2, .bool false), (4, .slice Av397 (G398).length cv397), (5, .int .i64 (((r400) - (1 : Int)))), (6, .int .i64 (65 : Int)), (7, .slice Av414 ((chF G398 (((r400) - (1 : Int))) (65 : Int)).1).length cv414), (8, .int .i64 ((chF G398 (((r400) - (1 : Int))) (65 : Int)).2)), (9, .slice Av415 ((chF G398 (((r400) - (1 : Int))) (65 : Int)).1).length cv415), (10, .int .i64 ((chF G398 (((r400) - (1 : Int))) (65 : Int)).2)), (11, .slice Av416 ((unF G398 (((r400) - (1 : Int))) (65 : Int)).1).length cv416), (12, .int .i64 ((unF G398 (((r400) - (1 : Int))) (65 : Int)).2)), (13, .slice Av417 ((unF G398 (((r400) - (1 : Int))) (65 : Int)).1).length cv417), (14, .int .i64 ((unF G398 (((r400) - (1 : Int))) (65 : Int)).2)), (15, .slice Av418 ((divF G398 (65 : Int))).length cv418), (16, .slice Av420 ((divF G398 (65 : Int))).length cv420), (17, .int .i64 ((p : Nat) : Int))] ∧ Sat w0 w (.row 3 1 (.slice Av420 ((divF G398 (65 : Int))).length cv420) ((divF G398 (65 : Int))).length (cells encI ((divF G398 (65 : Int)))) :: .row 3 1 (.slice Av418 ((divF G398 (65 : Int))).length cv418) ((divF G398 (65 : Int))).length (cells encI ((divF G398 (65 : Int)))) :: .ro 3 (.slice Av417 ((unF G398 (((r400) - (1 : Int))) (65 : Int)).1).length cv417) ((unF G398 (((r400) - (1 : Int))) (65 : Int)).1).length (cells enc36 ((unF G398 (((r400) - (1 : Int))) (65 : Int)).1)) :: .ro 3 (.slice Av397 (G398).length cv397) (G398).length (cells enc36 (G398)) :: .row 36 3 (.slice Av416 ((unF G398 (((r400) - (1 : Int))) (65 : Int)).1).length cv416) ((unF G398 (((r400) - (1 : Int))) (65 : Int)).1).length (cells enc36 ((unF G398 (((r400) - (1 : Int))) (65 : Int)).1)) :: .ro 3 (.slice Av415 ((chF G398 (((r400) - (1 : Int))) (65 : Int)).1).length cv415) ((chF G398 (((r400) - (1 : Int))) (65 : Int)).1).length (cells enc36 ((chF G398 (((r400) - (1 : Int))) (65 : Int)).1)) :: .row 36 3 (.slice Av414 ((chF G398 (((r400) - (1 : Int))) (65 : Int)).1).length cv414) ((chF G398 (((r400) - (1 : Int))) (65 : Int)).1).length (cells enc36 ((chF G398 (((r400) - (1 : Int))) (65 : Int)).1)) :: .box g396 25 #[.slice Av (L).length cv, .int .i64 ((it411 : Nat) : Int)] :: .ro 1 (.slice Av (L).length cv) (L).length (cells encI (L)) :: [])) (((divF G398 (65 : Int))).length - 0) ?_ ?_
      · exact ⟨0, rfl, Nat.zero_le _, hF.to [2, 4, 5, 6, 7, 8, 9, 10, 11, 12, 13, 14, 15, 16, 17] rfl, (hS.sub [0, 1, 2, 3, 4, 5, 6, 7, 8] (by decide) (by first | rfl | simp) (by simp))⟩
      · clear hF hS; try clear hSS
        clear a w; rintro m a w ⟨p, rfl, hinv, hF, hS⟩
        refine c_seq ?_
        refine c_seq ?_
        refine c_region ?_
        refine seq_yl hF (wn_none rfl) rfl rfl (yl_move hF rfl rfl) ?_
        clear hF; intro a hF
        refine seq_yl hF (wn_none rfl) rfl rfl (yl_move hF rfl rfl) ?_
        clear hF; intro a hF
        refine seq_yl hF (wn_none rfl) rfl rfl (yl_len hF rfl rfl (fun _ => run_lenRd sl22 (hS.rdRow 1 rfl))) ?_
        clear hF; intro a hF
        refine seq_yl hF (wn_none rfl) rfl rfl (yl_bin hF rfl rfl rfl rfl (fun _ => run_lss)) ?_
        clear hF; intro a hF
        refine wpList_nil ?_
        refine then_n ?_
        refine c_cond hF rfl (fun hc422 => ?_) (fun hc422 => ?_)
        · first | (replace hc422 := of_decide_eq_true hc422) | (replace hc422 := of_decide_eq_false (bnot_t hc422)) | (subst hc422) | (replace hc422 := bnot_t hc422; subst hc422) | (replace hc422 := bnot_t hc422) | skip
          refine wp_skip ?_
          refine then_n ?_
          refine c_seq ?_
          refine wp_block ?_
          refine c_seq ?_
          refine ha_startS hS [1, 0] 9 (by kernel_rfl) ?_; clear hS; intro w hS
          have hSS := hS.sub [1, 0] (by decide) rfl (by simp)
          refine ha_yl 0 hF rfl rfl rfl (by kernel_rfl) (by kernel_rfl) (by kernel_rfl) (by decide) (fun _ _ _ h => h) (wn_none rfl) (.inr hSS) (yl_move hF rfl rfl) ?_
          clear hF; intro a hF
          refine ha_yl 1 hF rfl rfl rfl (by kernel_rfl) (by kernel_rfl) (by kernel_rfl) (by decide) (fun _ _ _ h => h) (wn_none rfl) (.inr hSS) (yl_move hF rfl rfl) ?_
          clear hF; intro a hF
          have hlt_hx423 : p < ((divF G398 (65 : Int))).length := by first | omega | (simp; done) | (simp; omega)
          obtain ⟨ad424, rfl⟩ := rd_some (hS.rdRow 1 rfl) hlt_hx423
          obtain ⟨x423, hx423⟩ := get_some hlt_hx423
          refine ha_yl 2 hF rfl rfl rfl (by kernel_rfl) (by kernel_rfl) (by kernel_rfl) (by decide) (fun _ _ _ h => h) (wn_none rfl) (.inr hSS) (yl_indexAddr hF rfl rfl rfl (fun _ => run_idx' sl22 sz3 (hS.rdRow 1 rfl) hlt_hx423)) ?_
          clear hF; intro a hF
          refine ha_yl 4 hF rfl rfl rfl (by kernel_rfl) (by kernel_rfl) (by kernel_rfl) (by decide) (fun _ _ _ h => h) (wn_none rfl) (.inr hSS) (yl_move hF rfl rfl) ?_
          clear hF; intro a hF
          refine ha_yl 5 hF rfl rfl rfl (by kernel_rfl) (by kernel_rfl) (by kernel_rfl) (by decide) (fun _ _ _ h => h) (wn_none rfl) (.inr hSS) (yl_move hF rfl rfl) ?_
          clear hF; intro a hF
          have hlt_hx425 : p < ((divF G398 (65 : Int))).length := by first | omega | (simp; done) | (simp; omega)
          obtain ⟨ad426, rfl⟩ := rd_some (hS.rdRow 0 rfl) hlt_hx425
          obtain ⟨x425, hx425⟩ := get_some hlt_hx425
          refine ha_yl 6 hF rfl rfl rfl (by kernel_rfl) (by kernel_rfl) (by kernel_rfl) (by decide) (fun _ _ _ h => h) (wn_none rfl) (.inr hSS) (yl_indexAddr hF rfl rfl rfl (fun _ => run_idx' sl22 sz3 (hS.rdRow 0 rfl) hlt_hx425)) ?_
          clear hF; intro a hF
          refine ha_ld 3 hF rfl rfl rfl (by kernel_rfl) (by kernel_rfl) (by kernel_rfl) (by decide) (by kernel_rfl) (by kernel_rfl) (fun _ _ _ h => h) (wn_none rfl) hSS (yl_loadAt hF rfl rfl ag3 (fun _ h => rd_cell0 (enc := encI) (Sat.rdRow h 0 rfl) encI_len hx423 rfl rfl)) ?_
          clear hF; intro a hF
          refine ha_ld 7 hF rfl rfl rfl (by kernel_rfl) (by kernel_rfl) (by kernel_rfl) (by decide) (by kernel_rfl) (by kernel_rfl) (fun _ _ _ h => h) (wn_none rfl) hSS (yl_loadAt hF rfl rfl ag3 (fun _ h => rd_cell0 (enc := encI) (Sat.rdRow h 1 rfl) encI_len hx425 rfl rfl)) ?_
          clear hF; intro a hF
          refine ha_yl 8 hF rfl rfl rfl (by kernel_rfl) (by kernel_rfl) (by kernel_rfl) (by decide) (fun _ _ _ h => h) (wn_none rfl) (.inr hSS) (yl_bin hF rfl rfl rfl rfl (fun _ => run_neq)) ?_
          clear hF; intro a hF
          replace hF := fr_set (b' := false) hF (by have h9 := Option.some.inj (hx423.symm.trans hx425); rw [h9]; simp)
          refine ha_done (by kernel_rfl) ?_ _
          refine then_n ?_
          refine c_cond_f hF rfl ?_
          refine wp_skip ?_
          refine inb_n ?_
          refine then_n ?_
          refine c_region ?_
          refine seq_yl hF (wn_none rfl) rfl rfl (yl_move hF rfl rfl) ?_
          clear hF; intro a hF
          refine seq_yl hF (wn_none rfl) rfl rfl (yl_bin hF rfl rfl rfl rfl (fun _ => run_inc (by omega))) ?_
          clear hF; intro a hF
          refine seq_yl hF (wn_none rfl) rfl rfl (yl_assign hF rfl rfl) ?_
          clear hF; intro a hF
          refine wpList_nil ?_
          refine then_n ?_
          exact ⟨_, (by omega), p + 1, rfl, (by omega), hF.to [2, 4, 5, 6, 7, 8, 9, 10, 11, 12, 13, 14, 15, 16, 17] rfl, (hS.sub [0, 1, 2, 3, 4, 5, 6, 7, 8] (by decide) (by first | rfl | simp) (by simp))⟩
        · first | (replace hc422 := of_decide_eq_false hc422) | (replace hc422 := of_decide_eq_true (bnot_f hc422)) | (subst hc422) | (replace hc422 := bnot_f hc422; subst hc422) | (replace hc422 := bnot_f hc422) | skip
          refine wp_exit ?_
          refine then_x ?_
          refine then_x ?_
          refine inb_x ?_
          refine then_n ?_
          refine c_seq ?_
          refine c_seq ?_
          refine c_region ?_
          refine seq_yl hF (wn_none rfl) rfl rfl (yl_assign hF rfl rfl) ?_
          clear hF; intro a hF
          refine wpList_nil ?_
          refine then_n ?_
          refine wp_block ?_
          refine c_loop (fun m a w => ∃ (q : Nat), m = G398.length - q ∧ (q ≤ G398.length) ∧ Fr 147 a [(2, .bool false), (4, .slice Av397 (G398).length cv397), (5, .int .i64 (((r400) - (1 : Int)))), (6, .int .i64 (65 : Int)), (7, .slice Av414 ((chF G398 (((r400) - (1 : Int))) (65 : Int)).1).length cv414), (8, .int .i64 ((chF G398 (((r400) - (1 : Int))) (65 : Int)).2)), (9, .slice Av415 ((chF G398 (((r400) - (1 : Int))) (65 : Int)).1).length cv415), (10, .int .i64 ((chF G398 (((r400) - (1 : Int))) (65 : Int)).2)), (11, .slice Av416 ((unF G398 (((r400) - (1 : Int))) (65 : Int)).1).length cv416), (12, .int .i64 ((unF G398 (((r400) - (1 : Int))) (65 : Int)).2)), (13, .slice Av417 ((unF G398 (((r400) - (1 : Int))) (65 : Int)).1).length cv417), (14, .int .i64 ((unF G398 (((r400) - (1 : Int))) (65 : Int)).2)), (18, .int .i64 ((q : Nat) : Int))] ∧ Sat w0 w (.row 3 1 (.slice Av420 ((divF G398 (65 : Int))).length cv420) ((divF G398 (65 : Int))).length (cells encI ((divF G398 (65 : Int)))) :: .row 3 1 (.slice Av418 ((divF G398 (65 : Int))).length cv418) ((divF G398 (65 : Int))).length (cells encI ((divF G398 (65 : Int)))) :: .ro 3 (.slice Av417 ((unF G398 (((r400) - (1 : Int))) (65 : Int)).1).length cv417) ((unF G398 (((r400) - (1 : Int))) (65 : Int)).1).length (cells enc36 ((unF G398 (((r400) - (1 : Int))) (65 : Int)).1)) :: .ro 3 (.slice Av397 (G398).length cv397) (G398).length (cells enc36 (G398)) :: .row 36 3 (.slice Av416 ((unF G398 (((r400) - (1 : Int))) (65 : Int)).1).length cv416) ((unF G398 (((r400) - (1 : Int))) (65 : Int)).1).length (cells enc36 ((unF G398 (((r400) - (1 : Int))) (65 : Int)).1)) :: .ro 3 (.slice Av415 ((chF G398 (((r400) - (1 : Int))) (65 : Int)).1).length cv415) ((chF G398 (((r400) - (1 : Int))) (65 : Int)).1).length (cells enc36 ((chF G398 (((r400) - (1 : Int))) (65 : Int)).1)) :: .row 36 3 (.slice Av414 ((chF G398 (((r400) - (1 : Int))) (65 : Int)).1).length cv414) ((chF G398 (((r400) - (1 : Int))) (65 : Int)).1).length (cells enc36 ((chF G398 (((r400) - (1 : Int))) (65 : Int)).1)) :: .box g396 25 #[.slice Av (L).length cv, .int .i64 ((it411 : Nat) : Int)] :: .ro 1 (.slice Av (L).length cv) (L).length (cells encI (L)) :: [])) (G398.length - 0) ?_ ?_
          · exact ⟨0, rfl, Nat.zero_le _, hF.to [2, 4, 5, 6, 7, 8, 9, 10, 11, 12, 13, 14, 18] rfl, (hS.sub [0, 1, 2, 3, 4, 5, 6, 7, 8] (by decide) (by first | rfl | simp) (by simp))⟩
          · clear hF hS; try clear hSS
            clear a w; rintro m a w ⟨q, rfl, hinv, hF, hS⟩
            refine c_seq ?_
            refine c_seq ?_
            refine c_region ?_
            refine seq_yl hF (wn_none rfl) rfl rfl (yl_move hF rfl rfl) ?_
            clear hF; intro a hF
            refine seq_yl hF (wn_none rfl) rfl rfl (yl_move hF rfl rfl) ?_
            clear hF; intro a hF
            refine seq_yl hF (wn_none rfl) rfl rfl (yl_len hF rfl rfl (fun _ => run_lenRd sl26 (hS.rdRo 3 rfl))) ?_
            clear hF; intro a hF
            refine seq_yl hF (wn_none rfl) rfl rfl (yl_bin hF rfl rfl rfl rfl (fun _ => run_lss)) ?_
            clear hF; intro a hF
            refine wpList_nil ?_
            refine then_n ?_
            refine c_cond hF rfl (fun hc427 => ?_) (fun hc427 => ?_)
            · first | (replace hc427 := of_decide_eq_true hc427) | (replace hc427 := of_decide_eq_false (bnot_t hc427)) | (subst hc427) | (replace hc427 := bnot_t hc427; subst hc427) | (replace hc427 := bnot_t hc427) | skip
              refine wp_skip ?_
              refine then_n ?_
              refine c_seq ?_
              refine wp_block ?_
              refine c_seq ?_
              refine ha_startS hS [3] 11 (by kernel_rfl) ?_; clear hS; intro w hS
              have hSS := hS.sub [3] (by decide) rfl (by simp)
              refine ha_yl 0 hF rfl rfl rfl (by kernel_rfl) (by kernel_rfl) (by kernel_rfl) (by decide) (fun _ _ _ h => h) (wn_none rfl) (.inr hSS) (yl_move hF rfl rfl) ?_
              clear hF; intro a hF
              refine ha_yl 1 hF rfl rfl rfl (by kernel_rfl) (by kernel_rfl) (by kernel_rfl) (by decide) (fun _ _ _ h => h) (wn_none rfl) (.inr hSS) (yl_move hF rfl rfl) ?_
              clear hF; intro a hF
              have hlt_hx428 : q < (G398).length := by first | omega | (simp; done) | (simp; omega)
              obtain ⟨ad429, rfl⟩ := rd_some (hS.rdRo 3 rfl) hlt_hx428
              obtain ⟨x428, hx428⟩ := get_some hlt_hx428
              have hb_x428 := hRG398 x428 (List.mem_of_getElem? hx428)
              refine ha_yl 2 hF rfl rfl rfl (by kernel_rfl) (by kernel_rfl) (by kernel_rfl) (by decide) (fun _ _ _ h => h) (wn_none rfl) (.inr hSS) (yl_indexAddr hF rfl rfl rfl (fun _ => run_idx' sl26 sz36 (hS.rdRo 3 rfl) hlt_hx428)) ?_
              clear hF; intro a hF
              refine ha_yl 5 hF rfl rfl rfl (by kernel_rfl) (by kernel_rfl) (by kernel_rfl) (by decide) (fun _ _ _ h => h) (wn_none rfl) (.inr hSS) (yl_move hF rfl rfl) ?_
              clear hF; intro a hF
              refine ha_yl 6 hF rfl rfl rfl (by kernel_rfl) (by kernel_rfl) (by kernel_rfl) (by decide) (fun _ _ _ h => h) (wn_none rfl) (.inr hSS) (yl_move hF rfl rfl) ?_
              clear hF; intro a hF
              refine ha_yl 7 hF rfl rfl rfl (by kernel_rfl) (by kernel_rfl) (by kernel_rfl) (by decide) (fun _ _ _ h => h) (wn_none rfl) (.inr hSS) (yl_indexAddr hF rfl rfl rfl (fun _ => run_idx' sl26 sz36 (hS.rdRo 3 rfl) hlt_hx428)) ?_
              clear hF; intro a hF
              refine ha_ld 3 hF rfl rfl rfl (by kernel_rfl) (by kernel_rfl) (by kernel_rfl) (by decide) (by kernel_rfl) (by kernel_rfl) (fun _ _ _ h => h) (wn_none rfl) hSS (yl_loadEl (rs := [.int .i64 (x428.f0), .int .i64 (x428.f1), .int .i64 (x428.f2)]) hF rfl rfl ag36 sz36 rfl (fun _ h => rd_cells (enc := enc36) (Sat.rdRo h 0 rfl) enc36_len hx428)) ?_
              clear hF; intro a hF
              refine ha_ld 8 hF rfl rfl rfl (by kernel_rfl) (by kernel_rfl) (by kernel_rfl) (by decide) (by kernel_rfl) (by kernel_rfl) (fun _ _ _ h => h) (wn_none rfl) hSS (yl_loadEl (rs := [.int .i64 (x428.f0), .int .i64 (x428.f1), .int .i64 (x428.f2)]) hF rfl rfl ag36 sz36 rfl (fun _ h => rd_cells (enc := enc36) (Sat.rdRo h 0 rfl) enc36_len hx428)) ?_
              clear hF; intro a hF
              refine ha_one 4 (by kernel_rfl) rfl (wn_none rfl) (wp_call (vs := [_]) hF rfl rfl rfl rfl cf17 (excess_any x428 _ (by have h9 := hb_x428; unfold okR at h9; exact ⟨by omega, by omega⟩)) ?_)
              clear hF; rintro _ w ⟨rfl, hS1⟩ a hF
              replace hS := hS.callB hS1 rfl; clear hS1
              replace hSS := hS.sub [3] (by decide) rfl (by simp)
              refine ⟨.inr hSS, ?_⟩
              refine ha_one 9 (by kernel_rfl) rfl (wn_none rfl) (wp_call (vs := [_]) hF rfl rfl rfl rfl cf18 (excess2_any x428 _ (by have h9 := hb_x428; unfold okR at h9; exact ⟨by omega, by omega⟩)) ?_)
              clear hF; rintro _ w ⟨rfl, hS1⟩ a hF
              replace hS := hS.callB hS1 rfl; clear hS1
              replace hSS := hS.sub [3] (by decide) rfl (by simp)
              refine ⟨.inr hSS, ?_⟩
              refine ha_yl 10 hF rfl rfl rfl (by kernel_rfl) (by kernel_rfl) (by kernel_rfl) (by decide) (fun _ _ _ h => h) (wn_none rfl) (.inr hSS) (yl_bin hF rfl rfl rfl rfl (fun _ => run_neq)) ?_
              clear hF; intro a hF
              replace hF := fr_set (b' := false) hF (by simp)
              refine ha_done (by kernel_rfl) ?_ _
              refine then_n ?_
              refine c_cond_f hF rfl ?_
              refine wp_skip ?_
              refine inb_n ?_
              refine then_n ?_
              refine c_region ?_
              refine seq_yl hF (wn_none rfl) rfl rfl (yl_move hF rfl rfl) ?_
              clear hF; intro a hF
              refine seq_yl hF (wn_none rfl) rfl rfl (yl_bin hF rfl rfl rfl rfl (fun _ => run_inc (by omega))) ?_
              clear hF; intro a hF
              refine seq_yl hF (wn_none rfl) rfl rfl (yl_assign hF rfl rfl) ?_
              clear hF; intro a hF
              refine wpList_nil ?_
              refine then_n ?_
              exact ⟨_, (by omega), q + 1, rfl, (by omega), hF.to [2, 4, 5, 6, 7, 8, 9, 10, 11, 12, 13, 14, 18] rfl, (hS.sub [0, 1, 2, 3, 4, 5, 6, 7, 8] (by decide) (by first | rfl | simp) (by simp))⟩
            · first | (replace hc427 := of_decide_eq_false hc427) | (replace hc427 := of_decide_eq_true (bnot_f hc427)) | (subst hc427) | (replace hc427 := bnot_f hc427; subst hc427) | (replace hc427 := bnot_f hc427) | skip
              refine wp_exit ?_
              refine then_x ?_
              refine then_x ?_
              refine inb_x ?_
              refine then_n ?_
              refine c_seq ?_
              refine c_region ?_
              refine seq_yl hF (wn_none rfl) rfl rfl (yl_move hF rfl rfl) ?_
              clear hF; intro a hF
              refine seq_wp (wn_none rfl) (wp_call (vs := [_]) hF rfl rfl rfl rfl cf19 (check_any _ G398 _ (hS.rdRo 3 rfl) (by first | omega | (simp; done) | (simp; omega) | (rw [chF_len]; first | omega | (simp; done) | (simp; omega)) | (rw [unF_len]; first | omega | (simp; done) | (simp; omega)))) ?_)
              clear hF; rintro _ w ⟨rfl, hS1⟩ a hF
              replace hS := hS.callB hS1 rfl; clear hS1
              refine seq_yl hF (wn_none rfl) rfl rfl (yl_move hF rfl rfl) ?_
              clear hF; intro a hF
              refine seq_wp (wn_none rfl) (wp_call (vs := [_]) hF rfl rfl rfl rfl cf20 (check2_any _ G398 _ (hS.rdRo 3 rfl) (by first | omega | (simp; done) | (simp; omega) | (rw [chF_len]; first | omega | (simp; done) | (simp; omega)) | (rw [unF_len]; first | omega | (simp; done) | (simp; omega)))) ?_)
              clear hF; rintro _ w ⟨rfl, hS1⟩ a hF
              replace hS := hS.callB hS1 rfl; clear hS1
              refine seq_yl hF (wn_none rfl) rfl rfl (yl_bin hF rfl rfl rfl rfl (fun _ => run_eqb Try.underlying4)) ?_
              clear hF; intro a hF
              replace hF := fr_set (b' := true) hF (by simp)
              refine seq_yl hF (wn_none rfl) rfl rfl (yl_move hF rfl rfl) ?_
              clear hF; intro a hF
              refine seq_yl hF (wn_t hF rfl rfl rfl rfl) rfl rfl (yl_move hF rfl rfl) ?_
              clear hF; intro a hF
              refine seq_yl hF (wn_t hF rfl rfl rfl rfl) rfl rfl (yl_move hF rfl rfl) ?_
              clear hF; intro a hF
              refine seq_yl hF (wn_t hF rfl rfl rfl rfl) rfl rfl (yl_bin hF rfl rfl rfl rfl (fun _ => run_eql)) ?_
              clear hF; intro a hF
              replace hF := fr_set (b' := true) hF (by simp)
              refine seq_yl hF (wn_none rfl) rfl rfl (yl_pick (u := _) (v := undef) hF rfl rfl (fun _ => rfl) (fun h => by cases h)) ?_
              clear hF; intro a hF
              refine seq_yl hF (wn_none rfl) rfl rfl (yl_move hF rfl rfl) ?_
              clear hF; intro a hF
              refine seq_yl hF (wn_t hF rfl rfl rfl rfl) rfl rfl (yl_move hF rfl rfl) ?_
              clear hF; intro a hF
              refine seq_yl hF (wn_t hF rfl rfl rfl rfl) rfl rfl (yl_move hF rfl rfl) ?_
              clear hF; intro a hF
              refine seq_yl hF (wn_t hF rfl rfl rfl rfl) rfl rfl (yl_bin hF rfl rfl rfl rfl (fun _ => run_eql)) ?_
              clear hF; intro a hF
              replace hF := fr_set (b' := true) hF (by simp)
              refine seq_yl hF (wn_none rfl) rfl rfl (yl_pick (u := _) (v := undef) hF rfl rfl (fun _ => rfl) (fun h => by cases h)) ?_
              clear hF; intro a hF
              refine seq_yl hF (wn_none rfl) rfl rfl (yl_move hF rfl rfl) ?_
              clear hF; intro a hF
              refine seq_yl hF (wn_t hF rfl rfl rfl rfl) rfl rfl (yl_move hF rfl rfl) ?_
              clear hF; intro a hF
              refine seq_yl hF (wn_t hF rfl rfl rfl rfl) rfl rfl (yl_move hF rfl rfl) ?_
              clear hF; intro a hF
              refine seq_wp (wn_t hF rfl rfl rfl rfl) (wp_call (vs := [_, _]) hF rfl rfl rfl rfl cf21 (same_any _ _ (chF G398 (((r400) - (1 : Int))) (65 : Int)).1 (chF G398 (((r400) - (1 : Int))) (65 : Int)).1 _ (hS.rdRow 6 rfl) (hS.rdRo 5 rfl) (by first | omega | (simp; done) | (simp; omega) | (rw [chF_len]; first | omega | (simp; done) | (simp; omega)) | (rw [unF_len]; first | omega | (simp; done) | (simp; omega)))) ?_)
              clear hF; rintro _ w ⟨rfl, hS1⟩ a hF
              replace hS := hS.callB hS1 rfl; clear hS1
              replace hF := fr_set (b' := true) hF (by simp)
              refine seq_yl hF (wn_none rfl) rfl rfl (yl_pick (u := _) (v := undef) hF rfl rfl (fun _ => rfl) (fun h => by cases h)) ?_
              clear hF; intro a hF
              refine seq_yl hF (wn_none rfl) rfl rfl (yl_move hF rfl rfl) ?_
              clear hF; intro a hF
              refine seq_yl hF (wn_t hF rfl rfl rfl rfl) rfl rfl (yl_move hF rfl rfl) ?_
              clear hF; intro a hF
              refine seq_yl hF (wn_t hF rfl rfl rfl rfl) rfl rfl (yl_move hF rfl rfl) ?_
              clear hF; intro a hF
              refine seq_wp (wn_t hF rfl rfl rfl rfl) (wp_call (vs := [_, _]) hF rfl rfl rfl rfl cf21 (same_any _ _ (unF G398 (((r400) - (1 : Int))) (65 : Int)).1 (unF G398 (((r400) - (1 : Int))) (65 : Int)).1 _ (hS.rdRow 4 rfl) (hS.rdRo 2 rfl) (by first | omega | (simp; done) | (simp; omega) | (rw [chF_len]; first | omega | (simp; done) | (simp; omega)) | (rw [unF_len]; first | omega | (simp; done) | (simp; omega)))) ?_)
              clear hF; rintro _ w ⟨rfl, hS1⟩ a hF
              replace hS := hS.callB hS1 rfl; clear hS1
              replace hF := fr_set (b' := true) hF (by simp)
              refine seq_yl hF (wn_none rfl) rfl rfl (yl_pick (u := _) (v := undef) hF rfl rfl (fun _ => rfl) (fun h => by cases h)) ?_
              clear hF; intro a hF
              refine seq_yl hF (wn_none rfl) rfl rfl (yl_move hF rfl rfl) ?_
              clear hF; intro a hF
              refine seq_yl hF (wn_t hF rfl rfl rfl rfl) rfl rfl (yl_move hF rfl rfl) ?_
              clear hF; intro a hF
              refine seq_yl hF (wn_t hF rfl rfl rfl rfl) rfl rfl (yl_move hF rfl rfl) ?_
              clear hF; intro a hF
              refine seq_yl hF (wn_t hF rfl rfl rfl rfl) rfl rfl (yl_move hF rfl rfl) ?_
              clear hF; intro a hF
              refine seq_wp (wn_t hF rfl rfl rfl rfl) (wp_call (vs := [_, _, _]) hF rfl rfl rfl rfl cf22 (over_any _ G398 (((r400) - (1 : Int))) (65 : Int) _ (hS.rdRo 3 rfl) (by first | omega | (simp; done) | (simp; omega) | (rw [chF_len]; first | omega | (simp; done) | (simp; omega)) | (rw [unF_len]; first | omega | (simp; done) | (simp; omega)))) ?_)
              clear hF; rintro _ w ⟨rfl, hS1⟩ a hF
              replace hS := hS.callB hS1 rfl; clear hS1
              refine seq_yl hF (wn_t hF rfl rfl rfl rfl) rfl rfl (yl_move hF rfl rfl) ?_
              clear hF; intro a hF
              refine seq_yl hF (wn_t hF rfl rfl rfl rfl) rfl rfl (yl_move hF rfl rfl) ?_
              clear hF; intro a hF
              refine seq_yl hF (wn_t hF rfl rfl rfl rfl) rfl rfl (yl_move hF rfl rfl) ?_
              clear hF; intro a hF
              refine seq_wp (wn_t hF rfl rfl rfl rfl) (wp_call (vs := [_, _, _]) hF rfl rfl rfl rfl cf23 (over2_any _ G398 (((r400) - (1 : Int))) (65 : Int) _ (hS.rdRo 3 rfl) (by first | omega | (simp; done) | (simp; omega) | (rw [chF_len]; first | omega | (simp; done) | (simp; omega)) | (rw [unF_len]; first | omega | (simp; done) | (simp; omega)))) ?_)
              clear hF; rintro _ w ⟨rfl, hS1⟩ a hF
              replace hS := hS.callB hS1 rfl; clear hS1
              refine seq_yl hF (wn_t hF rfl rfl rfl rfl) rfl rfl (yl_bin hF rfl rfl rfl rfl (fun _ => run_eql)) ?_
              clear hF; intro a hF
              replace hF := fr_set (b' := true) hF (by simp)
              refine seq_yl hF (wn_none rfl) rfl rfl (yl_pick (u := _) (v := undef) hF rfl rfl (fun _ => rfl) (fun h => by cases h)) ?_
              clear hF; intro a hF
              refine seq_yl hF (wn_none rfl) rfl rfl (yl_move hF rfl rfl) ?_
              clear hF; intro a hF
              refine seq_wp (wn_t hF rfl rfl rfl rfl) (wp_call (vs := []) hF rfl rfl rfl rfl cf24 (awake_any _) ?_)
              clear hF; rintro _ w ⟨rfl, hS1⟩ a hF
              replace hS := hS.callB hS1 rfl; clear hS1
              refine seq_yl hF (wn_none rfl) rfl rfl (yl_pick (u := _) (v := undef) hF rfl rfl (fun _ => rfl) (fun h => by cases h)) ?_
              clear hF; intro a hF
              refine seq_yl hF (wn_none rfl) rfl rfl (yl_assign hF rfl rfl) ?_
              clear hF; intro a hF
              refine wpList_nil ?_
              refine then_n ?_
              refine wp_ret ?_
              refine ret_t hF rfl rfl ?_
              exact ⟨_, rfl, rfl, (hS.sub [] (by decide) (by first | rfl | simp) (by simp))⟩
    · first | (replace hc413 := of_decide_eq_false hc413) | (replace hc413 := of_decide_eq_true (bnot_f hc413)) | (subst hc413) | (replace hc413 := bnot_f hc413; subst hc413) | (replace hc413 := bnot_f hc413) | skip
      refine wp_skip ?_
      refine then_n ?_
      refine c_seq ?_
      refine c_region ?_
      refine seq_yl hF (wn_none rfl) rfl rfl (yl_move hF rfl rfl) ?_
      clear hF; intro a hF
      refine seq_yl hF (wn_none rfl) rfl rfl (yl_move hF rfl rfl) ?_
      clear hF; intro a hF
      refine seq_yl hF (wn_none rfl) rfl rfl (yl_move hF rfl rfl) ?_
      clear hF; intro a hF
      refine seq_wp (wn_none rfl) (wp_call (vs := [_, _, _]) hF rfl rfl rfl rfl cf11 (charge_any _ G398 (((r400) - (1 : Int))) (r410) _ (hS.rdRo 2 rfl) (by first | omega | (simp; done) | (simp; omega) | (rw [chF_len]; first | omega | (simp; done) | (simp; omega)) | (rw [unF_len]; first | omega | (simp; done) | (simp; omega)))) ?_)
      clear hF; rintro _ w ⟨v430, rfl, hS1⟩ a hF
      replace hS := hS.callB hS1 rfl; clear hS1
      obtain ⟨Av430, cv430, rfl⟩ := hS.form 0 rfl
      refine seq_yl hF (wn_none rfl) rfl rfl (yl_move hF rfl rfl) ?_
      clear hF; intro a hF
      refine seq_yl hF (wn_none rfl) rfl rfl (yl_extract hF rfl rfl rfl) ?_
      clear hF; intro a hF
      refine seq_yl hF (wn_none rfl) rfl rfl (yl_extract hF rfl rfl rfl) ?_
      clear hF; intro a hF
      refine seq_yl hF (wn_none rfl) rfl rfl (yl_assign hF rfl rfl) ?_
      clear hF; intro a hF
      refine seq_yl hF (wn_none rfl) rfl rfl (yl_assign hF rfl rfl) ?_
      clear hF; intro a hF
      refine wpList_nil ?_
      refine then_n ?_
      refine c_seq ?_
      refine c_region ?_
      refine seq_yl hF (wn_none rfl) rfl rfl (yl_move hF rfl rfl) ?_
      clear hF; intro a hF
      refine seq_yl hF (wn_none rfl) rfl rfl (yl_move hF rfl rfl) ?_
      clear hF; intro a hF
      refine seq_yl hF (wn_none rfl) rfl rfl (yl_move hF rfl rfl) ?_
      clear hF; intro a hF
      replace hS := (hS.sub [3, 0, 1, 2] (by decide) (by first | rfl | simp) (by simp))
      refine seq_wp (wn_none rfl) (wp_call (vs := [_, _, _]) hF rfl rfl rfl rfl cf12 (charge2_ro _ _ _ _ G398 (((r400) - (1 : Int))) (r410) hS (by omega)) ?_)
      clear hF; rintro _ w ⟨v431, rfl, hS1⟩ a hF; replace hS := hS1; clear hS1
      obtain ⟨Av431, cv431, rfl⟩ := (hS.rdRo 0 rfl).form
      refine seq_yl hF (wn_none rfl) rfl rfl (yl_move hF rfl rfl) ?_
      clear hF; intro a hF
      refine seq_yl hF (wn_none rfl) rfl rfl (yl_extract hF rfl rfl rfl) ?_
      clear hF; intro a hF
      refine seq_yl hF (wn_none rfl) rfl rfl (yl_extract hF rfl rfl rfl) ?_
      clear hF; intro a hF
      refine seq_yl hF (wn_none rfl) rfl rfl (yl_assign hF rfl rfl) ?_
      clear hF; intro a hF
      refine seq_yl hF (wn_none rfl) rfl rfl (yl_assign hF rfl rfl) ?_
      clear hF; intro a hF
      refine wpList_nil ?_
      refine then_n ?_
      refine c_seq ?_
      refine c_region ?_
      refine seq_yl hF (wn_none rfl) rfl rfl (yl_move hF rfl rfl) ?_
      clear hF; intro a hF
      refine seq_yl hF (wn_none rfl) rfl rfl (yl_move hF rfl rfl) ?_
      clear hF; intro a hF
      refine seq_yl hF (wn_none rfl) rfl rfl (yl_move hF rfl rfl) ?_
      clear hF; intro a hF
      refine seq_wp (wn_none rfl) (wp_call (vs := [_, _, _]) hF rfl rfl rfl rfl cf13 (uncharge_any _ G398 (((r400) - (1 : Int))) (r410) _ (hS.rdRo 1 rfl) (by first | omega | (simp; done) | (simp; omega) | (rw [chF_len]; first | omega | (simp; done) | (simp; omega)) | (rw [unF_len]; first | omega | (simp; done) | (simp; omega)))) ?_)
      clear hF; rintro _ w ⟨v432, rfl, hS1⟩ a hF
      replace hS := hS.callB hS1 rfl; clear hS1
      obtain ⟨Av432, cv432, rfl⟩ := hS.form 0 rfl
      refine seq_yl hF (wn_none rfl) rfl rfl (yl_move hF rfl rfl) ?_
      clear hF; intro a hF
      refine seq_yl hF (wn_none rfl) rfl rfl (yl_extract hF rfl rfl rfl) ?_
      clear hF; intro a hF
      refine seq_yl hF (wn_none rfl) rfl rfl (yl_extract hF rfl rfl rfl) ?_
      clear hF; intro a hF
      refine seq_yl hF (wn_none rfl) rfl rfl (yl_assign hF rfl rfl) ?_
      clear hF; intro a hF
      refine seq_yl hF (wn_none rfl) rfl rfl (yl_assign hF rfl rfl) ?_
      clear hF; intro a hF
      refine wpList_nil ?_
      refine then_n ?_
      refine c_seq ?_
      refine c_region ?_
      refine seq_yl hF (wn_none rfl) rfl rfl (yl_move hF rfl rfl) ?_
      clear hF; intro a hF
      refine seq_yl hF (wn_none rfl) rfl rfl (yl_move hF rfl rfl) ?_
      clear hF; intro a hF
      refine seq_yl hF (wn_none rfl) rfl rfl (yl_move hF rfl rfl) ?_
      clear hF; intro a hF
      replace hS := (hS.sub [2, 0, 1, 3, 4, 5] (by decide) (by first | rfl | simp) (by simp))
      refine seq_wp (wn_none rfl) (wp_call (vs := [_, _, _]) hF rfl rfl rfl rfl cf14 (uncharge2_ro _ _ _ _ G398 (((r400) - (1 : Int))) (r410) hS (by omega)) ?_)
      clear hF; rintro _ w ⟨v433, rfl, hS1⟩ a hF; replace hS := hS1; clear hS1
      obtain ⟨Av433, cv433, rfl⟩ := (hS.rdRo 0 rfl).form
      refine seq_yl hF (wn_none rfl) rfl rfl (yl_move hF rfl rfl) ?_
      clear hF; intro a hF
      refine seq_yl hF (wn_none rfl) rfl rfl (yl_extract hF rfl rfl rfl) ?_
      clear hF; intro a hF
      refine seq_yl hF (wn_none rfl) rfl rfl (yl_extract hF rfl rfl rfl) ?_
      clear hF; intro a hF
      refine seq_yl hF (wn_none rfl) rfl rfl (yl_assign hF rfl rfl) ?_
      clear hF; intro a hF
      refine seq_yl hF (wn_none rfl) rfl rfl (yl_assign hF rfl rfl) ?_
      clear hF; intro a hF
      refine wpList_nil ?_
      refine then_n ?_
      refine c_seq ?_
      refine c_region ?_
      refine seq_yl hF (wn_none rfl) rfl rfl (yl_move hF rfl rfl) ?_
      clear hF; intro a hF
      refine seq_yl hF (wn_none rfl) rfl rfl (yl_move hF rfl rfl) ?_
      clear hF; intro a hF
      have hd435 := divF_len4 G398 (r410)
      refine seq_wp (wn_none rfl) (wp_call (vs := [_, _]) hF rfl rfl rfl rfl cf15 (divide_any _ G398 (r410) (by omega) _ (hS.rdRo 1 rfl) (by first | omega | (simp; done) | (simp; omega) | (rw [chF_len]; first | omega | (simp; done) | (simp; omega)) | (rw [unF_len]; first | omega | (simp; done) | (simp; omega)))) ?_)
      clear hF; rintro _ w ⟨v434, rfl, hS1⟩ a hF
      replace hS := hS.callB hS1 rfl; clear hS1
      obtain ⟨Av434, cv434, rfl⟩ := hS.form 0 rfl
      refine seq_yl hF (wn_none rfl) rfl rfl (yl_move hF rfl rfl) ?_
      clear hF; intro a hF
      refine seq_yl hF (wn_none rfl) rfl rfl (yl_move hF rfl rfl) ?_
      clear hF; intro a hF
      have hd437 := divF_len4 G398 (r410)
      refine seq_wp (wn_none rfl) (wp_call (vs := [_, _]) hF rfl rfl rfl rfl cf16 (divide2_any _ G398 (r410) (by omega) _ (hS.rdRo 2 rfl) (by first | omega | (simp; done) | (simp; omega) | (rw [chF_len]; first | omega | (simp; done) | (simp; omega)) | (rw [unF_len]; first | omega | (simp; done) | (simp; omega)))) ?_)
      clear hF; rintro _ w ⟨v436, rfl, hS1⟩ a hF
      replace hS := hS.callB hS1 rfl; clear hS1
      obtain ⟨Av436, cv436, rfl⟩ := hS.form 0 rfl
      refine seq_yl hF (wn_none rfl) rfl rfl (yl_assign hF rfl rfl) ?_
      clear hF; intro a hF
      refine seq_yl hF (wn_none rfl) rfl rfl (yl_assign hF rfl rfl) ?_
      clear hF; intro a hF
      refine wpList_nil ?_
      refine then_n ?_
      refine c_seq ?_
      refine c_seq ?_
      refine c_region ?_
      refine seq_yl hF (wn_none rfl) rfl rfl (yl_move hF rfl rfl) ?_
      clear hF; intro a hF
      refine seq_yl hF (wn_none rfl) rfl rfl (yl_len hF rfl rfl (fun _ => run_lenRd sl22 (hS.rdRow 1 rfl))) ?_
      clear hF; intro a hF
      refine seq_yl hF (wn_none rfl) rfl rfl (yl_move hF rfl rfl) ?_
      clear hF; intro a hF
      refine seq_yl hF (wn_none rfl) rfl rfl (yl_len hF rfl rfl (fun _ => run_lenRd sl22 (hS.rdRow 0 rfl))) ?_
      clear hF; intro a hF
      refine seq_yl hF (wn_none rfl) rfl rfl (yl_bin hF rfl rfl rfl rfl (fun _ => run_neq)) ?_
      clear hF; intro a hF
      replace hF := fr_set (b' := false) hF (by simp)
      refine wpList_nil ?_
      refine then_n ?_
      refine c_cond_f hF rfl ?_
      refine wp_skip ?_
      refine then_n ?_
      refine c_seq ?_
      refine c_seq ?_
      refine c_region ?_
      refine seq_yl hF (wn_none rfl) rfl rfl (yl_assign hF rfl rfl) ?_
      clear hF; intro a hF
      refine wpList_nil ?_
      refine then_n ?_
      refine wp_block ?_
      refine c_loop (fun m a w => ∃ (p : Nat), m = ((divF G398 (r410))).length - p ∧ (p ≤ ((divF G398 (r410))).length) ∧ Fr 147 a [(2, .bool false), (4, .slice Av397 (G398).length cv397), (5, .int .i64 (((r400) - (1 : Int)))), (6, .int .i64 (r410)), (7, .slice Av430 ((chF G398 (((r400) - (1 : Int))) (r410)).1).length cv430), (8, .int .i64 ((chF G398 (((r400) - (1 : Int))) (r410)).2)), (9, .slice Av431 ((chF G398 (((r400) - (1 : Int))) (r410)).1).length cv431), (10, .int .i64 ((chF G398 (((r400) - (1 : Int))) (r410)).2)), (11, .slice Av432 ((unF G398 (((r400) - (1 : Int))) (r410)).1).length cv432), (12, .int .i64 ((unF G398 (((r400) - (1 : Int))) (r410)).2)), (13, .slice Av433 ((unF G398 (((r400) - (1 : Int))) (r410)).1).length cv433), (14, .int .i64 ((unF G398 (((r400) - (1 : Int))) (r410)).2)), (15, .slice Av434 ((divF G398 (r410))).length cv434), (16, .slice Av436 ((divF G398 (r410))).length cv436), (17, .int .i64 ((p : Nat) : Int))] ∧ Sat w0 w (.row 3 1 (.slice Av436 ((divF G398 (r410))).length cv436) ((divF G398 (r410))).length (cells encI ((divF G398 (r410)))) :: .row 3 1 (.slice Av434 ((divF G398 (r410))).length cv434) ((divF G398 (r410))).length (cells encI ((divF G398 (r410)))) :: .ro 3 (.slice Av433 ((unF G398 (((r400) - (1 : Int))) (r410)).1).length cv433) ((unF G398 (((r400) - (1 : Int))) (r410)).1).length (cells enc36 ((unF G398 (((r400) - (1 : Int))) (r410)).1)) :: .ro 3 (.slice Av397 (G398).length cv397) (G398).length (cells enc36 (G398)) :: .row 36 3 (.slice Av432 ((unF G398 (((r400) - (1 : Int))) (r410)).1).length cv432) ((unF G398 (((r400) - (1 : Int))) (r410)).1).length (cells enc36 ((unF G398 (((r400) - (1 : Int))) (r410)).1)) :: .ro 3 (.slice Av431 ((chF G398 (((r400) - (1 : Int))) (r410)).1).length cv431) ((chF G398 (((r400) - (1 : Int))) (r410)).1).length (cells enc36 ((chF G398 (((r400) - (1 : Int))) (r410)).1)) :: .row 36 3 (.slice Av430 ((chF G398 (((r400) - (1 : Int))) (r410)).1).length cv430) ((chF G398 (((r400) - (1 : Int))) (r410)).1).length (cells enc36 ((chF G398 (((r400) - (1 : Int))) (r410)).1)) :: .box g396 25 #[.slice Av (L).length cv, .int .i64 ((it411 : Nat) : Int)] :: .ro 1 (.slice Av (L).length cv) (L).length (cells encI (L)) :: [])) (((divF G398 (r410))).length - 0) ?_ ?_
      · exact ⟨0, rfl, Nat.zero_le _, hF.to [2, 4, 5, 6, 7, 8, 9, 10, 11, 12, 13, 14, 15, 16, 17] rfl, (hS.sub [0, 1, 2, 3, 4, 5, 6, 7, 8] (by decide) (by first | rfl | simp) (by simp))⟩
      · clear hF hS; try clear hSS
        clear a w; rintro m a w ⟨p, rfl, hinv, hF, hS⟩
        refine c_seq ?_
        refine c_seq ?_
        refine c_region ?_
        refine seq_yl hF (wn_none rfl) rfl rfl (yl_move hF rfl rfl) ?_
        clear hF; intro a hF
        refine seq_yl hF (wn_none rfl) rfl rfl (yl_move hF rfl rfl) ?_
        clear hF; intro a hF
        refine seq_yl hF (wn_none rfl) rfl rfl (yl_len hF rfl rfl (fun _ => run_lenRd sl22 (hS.rdRow 1 rfl))) ?_
        clear hF; intro a hF
        refine seq_yl hF (wn_none rfl) rfl rfl (yl_bin hF rfl rfl rfl rfl (fun _ => run_lss)) ?_
        clear hF; intro a hF
        refine wpList_nil ?_
        refine then_n ?_
        refine c_cond hF rfl (fun hc438 => ?_) (fun hc438 => ?_)
        · first | (replace hc438 := of_decide_eq_true hc438) | (replace hc438 := of_decide_eq_false (bnot_t hc438)) | (subst hc438) | (replace hc438 := bnot_t hc438; subst hc438) | (replace hc438 := bnot_t hc438) | skip
          refine wp_skip ?_
          refine then_n ?_
          refine c_seq ?_
          refine wp_block ?_
          refine c_seq ?_
          refine ha_startS hS [1, 0] 9 (by kernel_rfl) ?_; clear hS; intro w hS
          have hSS := hS.sub [1, 0] (by decide) rfl (by simp)
          refine ha_yl 0 hF rfl rfl rfl (by kernel_rfl) (by kernel_rfl) (by kernel_rfl) (by decide) (fun _ _ _ h => h) (wn_none rfl) (.inr hSS) (yl_move hF rfl rfl) ?_
          clear hF; intro a hF
          refine ha_yl 1 hF rfl rfl rfl (by kernel_rfl) (by kernel_rfl) (by kernel_rfl) (by decide) (fun _ _ _ h => h) (wn_none rfl) (.inr hSS) (yl_move hF rfl rfl) ?_
          clear hF; intro a hF
          have hlt_hx439 : p < ((divF G398 (r410))).length := by first | omega | (simp; done) | (simp; omega)
          obtain ⟨ad440, rfl⟩ := rd_some (hS.rdRow 1 rfl) hlt_hx439
          obtain ⟨x439, hx439⟩ := get_some hlt_hx439
          refine ha_yl 2 hF rfl rfl rfl (by kernel_rfl) (by kernel_rfl) (by kernel_rfl) (by decide) (fun _ _ _ h => h) (wn_none rfl) (.inr hSS) (yl_indexAddr hF rfl rfl rfl (fun _ => run_idx' sl22 sz3 (hS.rdRow 1 rfl) hlt_hx439)) ?_
          clear hF; intro a hF
          refine ha_yl 4 hF rfl rfl rfl (by kernel_rfl) (by kernel_rfl) (by kernel_rfl) (by decide) (fun _ _ _ h => h) (wn_none rfl) (.inr hSS) (yl_move hF rfl rfl) ?_
          clear hF; intro a hF
          refine ha_yl 5 hF rfl rfl rfl (by kernel_rfl) (by kernel_rfl) (by kernel_rfl) (by decide) (fun _ _ _ h => h) (wn_none rfl) (.inr hSS) (yl_move hF rfl rfl) ?_
          clear hF; intro a hF
          have hlt_hx441 : p < ((divF G398 (r410))).length := by first | omega | (simp; done) | (simp; omega)
          obtain ⟨ad442, rfl⟩ := rd_some (hS.rdRow 0 rfl) hlt_hx441
          obtain ⟨x441, hx441⟩ := get_some hlt_hx441
          refine ha_yl 6 hF rfl rfl rfl (by kernel_rfl) (by kernel_rfl) (by kernel_rfl) (by decide) (fun _ _ _ h => h) (wn_none rfl) (.inr hSS) (yl_indexAddr hF rfl rfl rfl (fun _ => run_idx' sl22 sz3 (hS.rdRow 0 rfl) hlt_hx441)) ?_
          clear hF; intro a hF
          refine ha_ld 3 hF rfl rfl rfl (by kernel_rfl) (by kernel_rfl) (by kernel_rfl) (by decide) (by kernel_rfl) (by kernel_rfl) (fun _ _ _ h => h) (wn_none rfl) hSS (yl_loadAt hF rfl rfl ag3 (fun _ h => rd_cell0 (enc := encI) (Sat.rdRow h 0 rfl) encI_len hx439 rfl rfl)) ?_
          clear hF; intro a hF
          refine ha_ld 7 hF rfl rfl rfl (by kernel_rfl) (by kernel_rfl) (by kernel_rfl) (by decide) (by kernel_rfl) (by kernel_rfl) (fun _ _ _ h => h) (wn_none rfl) hSS (yl_loadAt hF rfl rfl ag3 (fun _ h => rd_cell0 (enc := encI) (Sat.rdRow h 1 rfl) encI_len hx441 rfl rfl)) ?_
          clear hF; intro a hF
          refine ha_yl 8 hF rfl rfl rfl (by kernel_rfl) (by kernel_rfl) (by kernel_rfl) (by decide) (fun _ _ _ h => h) (wn_none rfl) (.inr hSS) (yl_bin hF rfl rfl rfl rfl (fun _ => run_neq)) ?_
          clear hF; intro a hF
          replace hF := fr_set (b' := false) hF (by have h9 := Option.some.inj (hx439.symm.trans hx441); rw [h9]; simp)
          refine ha_done (by kernel_rfl) ?_ _
          refine then_n ?_
          refine c_cond_f hF rfl ?_
          refine wp_skip ?_
          refine inb_n ?_
          refine then_n ?_
          refine c_region ?_
          refine seq_yl hF (wn_none rfl) rfl rfl (yl_move hF rfl rfl) ?_
          clear hF; intro a hF
          refine seq_yl hF (wn_none rfl) rfl rfl (yl_bin hF rfl rfl rfl rfl (fun _ => run_inc (by omega))) ?_
          clear hF; intro a hF
          refine seq_yl hF (wn_none rfl) rfl rfl (yl_assign hF rfl rfl) ?_
          clear hF; intro a hF
          refine wpList_nil ?_
          refine then_n ?_
          exact ⟨_, (by omega), p + 1, rfl, (by omega), hF.to [2, 4, 5, 6, 7, 8, 9, 10, 11, 12, 13, 14, 15, 16, 17] rfl, (hS.sub [0, 1, 2, 3, 4, 5, 6, 7, 8] (by decide) (by first | rfl | simp) (by simp))⟩
        · first | (replace hc438 := of_decide_eq_false hc438) | (replace hc438 := of_decide_eq_true (bnot_f hc438)) | (subst hc438) | (replace hc438 := bnot_f hc438; subst hc438) | (replace hc438 := bnot_f hc438) | skip
          refine wp_exit ?_
          refine then_x ?_
          refine then_x ?_
          refine inb_x ?_
          refine then_n ?_
          refine c_seq ?_
          refine c_seq ?_
          refine c_region ?_
          refine seq_yl hF (wn_none rfl) rfl rfl (yl_assign hF rfl rfl) ?_
          clear hF; intro a hF
          refine wpList_nil ?_
          refine then_n ?_
          refine wp_block ?_
          refine c_loop (fun m a w => ∃ (q : Nat), m = G398.length - q ∧ (q ≤ G398.length) ∧ Fr 147 a [(2, .bool false), (4, .slice Av397 (G398).length cv397), (5, .int .i64 (((r400) - (1 : Int)))), (6, .int .i64 (r410)), (7, .slice Av430 ((chF G398 (((r400) - (1 : Int))) (r410)).1).length cv430), (8, .int .i64 ((chF G398 (((r400) - (1 : Int))) (r410)).2)), (9, .slice Av431 ((chF G398 (((r400) - (1 : Int))) (r410)).1).length cv431), (10, .int .i64 ((chF G398 (((r400) - (1 : Int))) (r410)).2)), (11, .slice Av432 ((unF G398 (((r400) - (1 : Int))) (r410)).1).length cv432), (12, .int .i64 ((unF G398 (((r400) - (1 : Int))) (r410)).2)), (13, .slice Av433 ((unF G398 (((r400) - (1 : Int))) (r410)).1).length cv433), (14, .int .i64 ((unF G398 (((r400) - (1 : Int))) (r410)).2)), (18, .int .i64 ((q : Nat) : Int))] ∧ Sat w0 w (.row 3 1 (.slice Av436 ((divF G398 (r410))).length cv436) ((divF G398 (r410))).length (cells encI ((divF G398 (r410)))) :: .row 3 1 (.slice Av434 ((divF G398 (r410))).length cv434) ((divF G398 (r410))).length (cells encI ((divF G398 (r410)))) :: .ro 3 (.slice Av433 ((unF G398 (((r400) - (1 : Int))) (r410)).1).length cv433) ((unF G398 (((r400) - (1 : Int))) (r410)).1).length (cells enc36 ((unF G398 (((r400) - (1 : Int))) (r410)).1)) :: .ro 3 (.slice Av397 (G398).length cv397) (G398).length (cells enc36 (G398)) :: .row 36 3 (.slice Av432 ((unF G398 (((r400) - (1 : Int))) (r410)).1).length cv432) ((unF G398 (((r400) - (1 : Int))) (r410)).1).length (cells enc36 ((unF G398 (((r400) - (1 : Int))) (r410)).1)) :: .ro 3 (.slice Av431 ((chF G398 (((r400) - (1 : Int))) (r410)).1).length cv431) ((chF G398 (((r400) - (1 : Int))) (r410)).1).length (cells enc36 ((chF G398 (((r400) - (1 : Int))) (r410)).1)) :: .row 36 3 (.slice Av430 ((chF G398 (((r400) - (1 : Int))) (r410)).1).length cv430) ((chF G398 (((r400) - (1 : Int))) (r410)).1).length (cells enc36 ((chF G398 (((r400) - (1 : Int))) (r410)).1)) :: .box g396 25 #[.slice Av (L).length cv, .int .i64 ((it411 : Nat) : Int)] :: .ro 1 (.slice Av (L).length cv) (L).length (cells encI (L)) :: [])) (G398.length - 0) ?_ ?_
          · exact ⟨0, rfl, Nat.zero_le _, hF.to [2, 4, 5, 6, 7, 8, 9, 10, 11, 12, 13, 14, 18] rfl, (hS.sub [0, 1, 2, 3, 4, 5, 6, 7, 8] (by decide) (by first | rfl | simp) (by simp))⟩
          · clear hF hS; try clear hSS
            clear a w; rintro m a w ⟨q, rfl, hinv, hF, hS⟩
            refine c_seq ?_
            refine c_seq ?_
            refine c_region ?_
            refine seq_yl hF (wn_none rfl) rfl rfl (yl_move hF rfl rfl) ?_
            clear hF; intro a hF
            refine seq_yl hF (wn_none rfl) rfl rfl (yl_move hF rfl rfl) ?_
            clear hF; intro a hF
            refine seq_yl hF (wn_none rfl) rfl rfl (yl_len hF rfl rfl (fun _ => run_lenRd sl26 (hS.rdRo 3 rfl))) ?_
            clear hF; intro a hF
            refine seq_yl hF (wn_none rfl) rfl rfl (yl_bin hF rfl rfl rfl rfl (fun _ => run_lss)) ?_
            clear hF; intro a hF
            refine wpList_nil ?_
            refine then_n ?_
            refine c_cond hF rfl (fun hc443 => ?_) (fun hc443 => ?_)
            · first | (replace hc443 := of_decide_eq_true hc443) | (replace hc443 := of_decide_eq_false (bnot_t hc443)) | (subst hc443) | (replace hc443 := bnot_t hc443; subst hc443) | (replace hc443 := bnot_t hc443) | skip
              refine wp_skip ?_
              refine then_n ?_
              refine c_seq ?_
              refine wp_block ?_
              refine c_seq ?_
              refine ha_startS hS [3] 11 (by kernel_rfl) ?_; clear hS; intro w hS
              have hSS := hS.sub [3] (by decide) rfl (by simp)
              refine ha_yl 0 hF rfl rfl rfl (by kernel_rfl) (by kernel_rfl) (by kernel_rfl) (by decide) (fun _ _ _ h => h) (wn_none rfl) (.inr hSS) (yl_move hF rfl rfl) ?_
              clear hF; intro a hF
              refine ha_yl 1 hF rfl rfl rfl (by kernel_rfl) (by kernel_rfl) (by kernel_rfl) (by decide) (fun _ _ _ h => h) (wn_none rfl) (.inr hSS) (yl_move hF rfl rfl) ?_
              clear hF; intro a hF
              have hlt_hx444 : q < (G398).length := by first | omega | (simp; done) | (simp; omega)
              obtain ⟨ad445, rfl⟩ := rd_some (hS.rdRo 3 rfl) hlt_hx444
              obtain ⟨x444, hx444⟩ := get_some hlt_hx444
              have hb_x444 := hRG398 x444 (List.mem_of_getElem? hx444)
              refine ha_yl 2 hF rfl rfl rfl (by kernel_rfl) (by kernel_rfl) (by kernel_rfl) (by decide) (fun _ _ _ h => h) (wn_none rfl) (.inr hSS) (yl_indexAddr hF rfl rfl rfl (fun _ => run_idx' sl26 sz36 (hS.rdRo 3 rfl) hlt_hx444)) ?_
              clear hF; intro a hF
              refine ha_yl 5 hF rfl rfl rfl (by kernel_rfl) (by kernel_rfl) (by kernel_rfl) (by decide) (fun _ _ _ h => h) (wn_none rfl) (.inr hSS) (yl_move hF rfl rfl) ?_
              clear hF; intro a hF
              refine ha_yl 6 hF rfl rfl rfl (by kernel_rfl) (by kernel_rfl) (by kernel_rfl) (by decide) (fun _ _ _ h => h) (wn_none rfl) (.inr hSS) (yl_move hF rfl rfl) ?_
              clear hF; intro a hF
              refine ha_yl 7 hF rfl rfl rfl (by kernel_rfl) (by kernel_rfl) (by kernel_rfl) (by decide) (fun _ _ _ h => h) (wn_none rfl) (.inr hSS) (yl_indexAddr hF rfl rfl rfl (fun _ => run_idx' sl26 sz36 (hS.rdRo 3 rfl) hlt_hx444)) ?_
              clear hF; intro a hF
              refine ha_ld 3 hF rfl rfl rfl (by kernel_rfl) (by kernel_rfl) (by kernel_rfl) (by decide) (by kernel_rfl) (by kernel_rfl) (fun _ _ _ h => h) (wn_none rfl) hSS (yl_loadEl (rs := [.int .i64 (x444.f0), .int .i64 (x444.f1), .int .i64 (x444.f2)]) hF rfl rfl ag36 sz36 rfl (fun _ h => rd_cells (enc := enc36) (Sat.rdRo h 0 rfl) enc36_len hx444)) ?_
              clear hF; intro a hF
              refine ha_ld 8 hF rfl rfl rfl (by kernel_rfl) (by kernel_rfl) (by kernel_rfl) (by decide) (by kernel_rfl) (by kernel_rfl) (fun _ _ _ h => h) (wn_none rfl) hSS (yl_loadEl (rs := [.int .i64 (x444.f0), .int .i64 (x444.f1), .int .i64 (x444.f2)]) hF rfl rfl ag36 sz36 rfl (fun _ h => rd_cells (enc := enc36) (Sat.rdRo h 0 rfl) enc36_len hx444)) ?_
              clear hF; intro a hF
              refine ha_one 4 (by kernel_rfl) rfl (wn_none rfl) (wp_call (vs := [_]) hF rfl rfl rfl rfl cf17 (excess_any x444 _ (by have h9 := hb_x444; unfold okR at h9; exact ⟨by omega, by omega⟩)) ?_)
              clear hF; rintro _ w ⟨rfl, hS1⟩ a hF
              replace hS := hS.callB hS1 rfl; clear hS1
              replace hSS := hS.sub [3] (by decide) rfl (by simp)
              refine ⟨.inr hSS, ?_⟩
              refine ha_one 9 (by kernel_rfl) rfl (wn_none rfl) (wp_call (vs := [_]) hF rfl rfl rfl rfl cf18 (excess2_any x444 _ (by have h9 := hb_x444; unfold okR at h9; exact ⟨by omega, by omega⟩)) ?_)
              clear hF; rintro _ w ⟨rfl, hS1⟩ a hF
              replace hS := hS.callB hS1 rfl; clear hS1
              replace hSS := hS.sub [3] (by decide) rfl (by simp)
              refine ⟨.inr hSS, ?_⟩
              refine ha_yl 10 hF rfl rfl rfl (by kernel_rfl) (by kernel_rfl) (by kernel_rfl) (by decide) (fun _ _ _ h => h) (wn_none rfl) (.inr hSS) (yl_bin hF rfl rfl rfl rfl (fun _ => run_neq)) ?_
              clear hF; intro a hF
              replace hF := fr_set (b' := false) hF (by simp)
              refine ha_done (by kernel_rfl) ?_ _
              refine then_n ?_
              refine c_cond_f hF rfl ?_
              refine wp_skip ?_
              refine inb_n ?_
              refine then_n ?_
              refine c_region ?_
              refine seq_yl hF (wn_none rfl) rfl rfl (yl_move hF rfl rfl) ?_
              clear hF; intro a hF
              refine seq_yl hF (wn_none rfl) rfl rfl (yl_bin hF rfl rfl rfl rfl (fun _ => run_inc (by omega))) ?_
              clear hF; intro a hF
              refine seq_yl hF (wn_none rfl) rfl rfl (yl_assign hF rfl rfl) ?_
              clear hF; intro a hF
              refine wpList_nil ?_
              refine then_n ?_
              exact ⟨_, (by omega), q + 1, rfl, (by omega), hF.to [2, 4, 5, 6, 7, 8, 9, 10, 11, 12, 13, 14, 18] rfl, (hS.sub [0, 1, 2, 3, 4, 5, 6, 7, 8] (by decide) (by first | rfl | simp) (by simp))⟩
            · first | (replace hc443 := of_decide_eq_false hc443) | (replace hc443 := of_decide_eq_true (bnot_f hc443)) | (subst hc443) | (replace hc443 := bnot_f hc443; subst hc443) | (replace hc443 := bnot_f hc443) | skip
              refine wp_exit ?_
              refine then_x ?_
              refine then_x ?_
              refine inb_x ?_
              refine then_n ?_
              refine c_seq ?_
              refine c_region ?_
              refine seq_yl hF (wn_none rfl) rfl rfl (yl_move hF rfl rfl) ?_
              clear hF; intro a hF
              refine seq_wp (wn_none rfl) (wp_call (vs := [_]) hF rfl rfl rfl rfl cf19 (check_any _ G398 _ (hS.rdRo 3 rfl) (by first | omega | (simp; done) | (simp; omega) | (rw [chF_len]; first | omega | (simp; done) | (simp; omega)) | (rw [unF_len]; first | omega | (simp; done) | (simp; omega)))) ?_)
              clear hF; rintro _ w ⟨rfl, hS1⟩ a hF
              replace hS := hS.callB hS1 rfl; clear hS1
              refine seq_yl hF (wn_none rfl) rfl rfl (yl_move hF rfl rfl) ?_
              clear hF; intro a hF
              refine seq_wp (wn_none rfl) (wp_call (vs := [_]) hF rfl rfl rfl rfl cf20 (check2_any _ G398 _ (hS.rdRo 3 rfl) (by first | omega | (simp; done) | (simp; omega) | (rw [chF_len]; first | omega | (simp; done) | (simp; omega)) | (rw [unF_len]; first | omega | (simp; done) | (simp; omega)))) ?_)
              clear hF; rintro _ w ⟨rfl, hS1⟩ a hF
              replace hS := hS.callB hS1 rfl; clear hS1
              refine seq_yl hF (wn_none rfl) rfl rfl (yl_bin hF rfl rfl rfl rfl (fun _ => run_eqb Try.underlying4)) ?_
              clear hF; intro a hF
              replace hF := fr_set (b' := true) hF (by simp)
              refine seq_yl hF (wn_none rfl) rfl rfl (yl_move hF rfl rfl) ?_
              clear hF; intro a hF
              refine seq_yl hF (wn_t hF rfl rfl rfl rfl) rfl rfl (yl_move hF rfl rfl) ?_
              clear hF; intro a hF
              refine seq_yl hF (wn_t hF rfl rfl rfl rfl) rfl rfl (yl_move hF rfl rfl) ?_
              clear hF; intro a hF
              refine seq_yl hF (wn_t hF rfl rfl rfl rfl) rfl rfl (yl_bin hF rfl rfl rfl rfl (fun _ => run_eql)) ?_
              clear hF; intro a hF
              replace hF := fr_set (b' := true) hF (by simp)
              refine seq_yl hF (wn_none rfl) rfl rfl (yl_pick (u := _) (v := undef) hF rfl rfl (fun _ => rfl) (fun h => by cases h)) ?_
              clear hF; intro a hF
              refine seq_yl hF (wn_none rfl) rfl rfl (yl_move hF rfl rfl) ?_
              clear hF; intro a hF
              refine seq_yl hF (wn_t hF rfl rfl rfl rfl) rfl rfl (yl_move hF rfl rfl) ?_
              clear hF; intro a hF
              refine seq_yl hF (wn_t hF rfl rfl rfl rfl) rfl rfl (yl_move hF rfl rfl) ?_
              clear hF; intro a hF
              refine seq_yl hF (wn_t hF rfl rfl rfl rfl) rfl rfl (yl_bin hF rfl rfl rfl rfl (fun _ => run_eql)) ?_
              clear hF; intro a hF
              replace hF := fr_set (b' := true) hF (by simp)
              refine seq_yl hF (wn_none rfl) rfl rfl (yl_pick (u := _) (v := undef) hF rfl rfl (fun _ => rfl) (fun h => by cases h)) ?_
              clear hF; intro a hF
              refine seq_yl hF (wn_none rfl) rfl rfl (yl_move hF rfl rfl) ?_
              clear hF; intro a hF
              refine seq_yl hF (wn_t hF rfl rfl rfl rfl) rfl rfl (yl_move hF rfl rfl) ?_
              clear hF; intro a hF
              refine seq_yl hF (wn_t hF rfl rfl rfl rfl) rfl rfl (yl_move hF rfl rfl) ?_
              clear hF; intro a hF
              refine seq_wp (wn_t hF rfl rfl rfl rfl) (wp_call (vs := [_, _]) hF rfl rfl rfl rfl cf21 (same_any _ _ (chF G398 (((r400) - (1 : Int))) (r410)).1 (chF G398 (((r400) - (1 : Int))) (r410)).1 _ (hS.rdRow 6 rfl) (hS.rdRo 5 rfl) (by first | omega | (simp; done) | (simp; omega) | (rw [chF_len]; first | omega | (simp; done) | (simp; omega)) | (rw [unF_len]; first | omega | (simp; done) | (simp; omega)))) ?_)
              clear hF; rintro _ w ⟨rfl, hS1⟩ a hF
              replace hS := hS.callB hS1 rfl; clear hS1
              replace hF := fr_set (b' := true) hF (by simp)
              refine seq_yl hF (wn_none rfl) rfl rfl (yl_pick (u := _) (v := undef) hF rfl rfl (fun _ => rfl) (fun h => by cases h)) ?_
              clear hF; intro a hF
              refine seq_yl hF (wn_none rfl) rfl rfl (yl_move hF rfl rfl) ?_
              clear hF; intro a hF
              refine seq_yl hF (wn_t hF rfl rfl rfl rfl) rfl rfl (yl_move hF rfl rfl) ?_
              clear hF; intro a hF
              refine seq_yl hF (wn_t hF rfl rfl rfl rfl) rfl rfl (yl_move hF rfl rfl) ?_
              clear hF; intro a hF
              refine seq_wp (wn_t hF rfl rfl rfl rfl) (wp_call (vs := [_, _]) hF rfl rfl rfl rfl cf21 (same_any _ _ (unF G398 (((r400) - (1 : Int))) (r410)).1 (unF G398 (((r400) - (1 : Int))) (r410)).1 _ (hS.rdRow 4 rfl) (hS.rdRo 2 rfl) (by first | omega | (simp; done) | (simp; omega) | (rw [chF_len]; first | omega | (simp; done) | (simp; omega)) | (rw [unF_len]; first | omega | (simp; done) | (simp; omega)))) ?_)
              clear hF; rintro _ w ⟨rfl, hS1⟩ a hF
              replace hS := hS.callB hS1 rfl; clear hS1
              replace hF := fr_set (b' := true) hF (by simp)
              refine seq_yl hF (wn_none rfl) rfl rfl (yl_pick (u := _) (v := undef) hF rfl rfl (fun _ => rfl) (fun h => by cases h)) ?_
              clear hF; intro a hF
              refine seq_yl hF (wn_none rfl) rfl rfl (yl_move hF rfl rfl) ?_
              clear hF; intro a hF
              refine seq_yl hF (wn_t hF rfl rfl rfl rfl) rfl rfl (yl_move hF rfl rfl) ?_
              clear hF; intro a hF
              refine seq_yl hF (wn_t hF rfl rfl rfl rfl) rfl rfl (yl_move hF rfl rfl) ?_
              clear hF; intro a hF
              refine seq_yl hF (wn_t hF rfl rfl rfl rfl) rfl rfl (yl_move hF rfl rfl) ?_
              clear hF; intro a hF
              refine seq_wp (wn_t hF rfl rfl rfl rfl) (wp_call (vs := [_, _, _]) hF rfl rfl rfl rfl cf22 (over_any _ G398 (((r400) - (1 : Int))) (r410) _ (hS.rdRo 3 rfl) (by first | omega | (simp; done) | (simp; omega) | (rw [chF_len]; first | omega | (simp; done) | (simp; omega)) | (rw [unF_len]; first | omega | (simp; done) | (simp; omega)))) ?_)
              clear hF; rintro _ w ⟨rfl, hS1⟩ a hF
              replace hS := hS.callB hS1 rfl; clear hS1
              refine seq_yl hF (wn_t hF rfl rfl rfl rfl) rfl rfl (yl_move hF rfl rfl) ?_
              clear hF; intro a hF
              refine seq_yl hF (wn_t hF rfl rfl rfl rfl) rfl rfl (yl_move hF rfl rfl) ?_
              clear hF; intro a hF
              refine seq_yl hF (wn_t hF rfl rfl rfl rfl) rfl rfl (yl_move hF rfl rfl) ?_
              clear hF; intro a hF
              refine seq_wp (wn_t hF rfl rfl rfl rfl) (wp_call (vs := [_, _, _]) hF rfl rfl rfl rfl cf23 (over2_any _ G398 (((r400) - (1 : Int))) (r410) _ (hS.rdRo 3 rfl) (by first | omega | (simp; done) | (simp; omega) | (rw [chF_len]; first | omega | (simp; done) | (simp; omega)) | (rw [unF_len]; first | omega | (simp; done) | (simp; omega)))) ?_)
              clear hF; rintro _ w ⟨rfl, hS1⟩ a hF
              replace hS := hS.callB hS1 rfl; clear hS1
              refine seq_yl hF (wn_t hF rfl rfl rfl rfl) rfl rfl (yl_bin hF rfl rfl rfl rfl (fun _ => run_eql)) ?_
              clear hF; intro a hF
              replace hF := fr_set (b' := true) hF (by simp)
              refine seq_yl hF (wn_none rfl) rfl rfl (yl_pick (u := _) (v := undef) hF rfl rfl (fun _ => rfl) (fun h => by cases h)) ?_
              clear hF; intro a hF
              refine seq_yl hF (wn_none rfl) rfl rfl (yl_move hF rfl rfl) ?_
              clear hF; intro a hF
              refine seq_wp (wn_t hF rfl rfl rfl rfl) (wp_call (vs := []) hF rfl rfl rfl rfl cf24 (awake_any _) ?_)
              clear hF; rintro _ w ⟨rfl, hS1⟩ a hF
              replace hS := hS.callB hS1 rfl; clear hS1
              refine seq_yl hF (wn_none rfl) rfl rfl (yl_pick (u := _) (v := undef) hF rfl rfl (fun _ => rfl) (fun h => by cases h)) ?_
              clear hF; intro a hF
              refine seq_yl hF (wn_none rfl) rfl rfl (yl_assign hF rfl rfl) ?_
              clear hF; intro a hF
              refine wpList_nil ?_
              refine then_n ?_
              refine wp_ret ?_
              refine ret_t hF rfl rfl ?_
              exact ⟨_, rfl, rfl, (hS.sub [] (by decide) (by first | rfl | simp) (by simp))⟩
  · first | (replace hc409 := of_decide_eq_false hc409) | (replace hc409 := of_decide_eq_true (bnot_f hc409)) | (subst hc409) | (replace hc409 := bnot_f hc409; subst hc409) | (replace hc409 := bnot_f hc409) | skip
    refine wp_skip ?_
    refine then_n ?_
    refine c_seq ?_
    refine c_seq ?_
    refine c_region ?_
    refine seq_yl hF (wn_none rfl) rfl rfl (yl_move hF rfl rfl) ?_
    clear hF; intro a hF
    refine seq_yl hF (wn_none rfl) rfl rfl (yl_bin hF rfl rfl rfl rfl (fun _ => run_gtr)) ?_
    clear hF; intro a hF
    refine wpList_nil ?_
    refine then_n ?_
    refine c_cond hF rfl (fun hc446 => ?_) (fun hc446 => ?_)
    · first | (replace hc446 := of_decide_eq_true hc446) | (replace hc446 := of_decide_eq_false (bnot_t hc446)) | (subst hc446) | (replace hc446 := bnot_t hc446; subst hc446) | (replace hc446 := bnot_t hc446) | skip
      refine c_region ?_
      refine seq_yl hF (wn_none rfl) rfl rfl (yl_assign hF rfl rfl) ?_
      clear hF; intro a hF
      refine wpList_nil ?_
      refine then_n ?_
      refine c_seq ?_
      refine c_region ?_
      refine seq_yl hF (wn_none rfl) rfl rfl (yl_move hF rfl rfl) ?_
      clear hF; intro a hF
      refine seq_yl hF (wn_none rfl) rfl rfl (yl_move hF rfl rfl) ?_
      clear hF; intro a hF
      refine seq_yl hF (wn_none rfl) rfl rfl (yl_move hF rfl rfl) ?_
      clear hF; intro a hF
      refine seq_wp (wn_none rfl) (wp_call (vs := [_, _, _]) hF rfl rfl rfl rfl cf11 (charge_any _ G398 (((r400) - (1 : Int))) (65 : Int) _ (hS.rdRo 2 rfl) (by first | omega | (simp; done) | (simp; omega) | (rw [chF_len]; first | omega | (simp; done) | (simp; omega)) | (rw [unF_len]; first | omega | (simp; done) | (simp; omega)))) ?_)
      clear hF; rintro _ w ⟨v447, rfl, hS1⟩ a hF
      replace hS := hS.callB hS1 rfl; clear hS1
      obtain ⟨Av447, cv447, rfl⟩ := hS.form 0 rfl
      refine seq_yl hF (wn_none rfl) rfl rfl (yl_move hF rfl rfl) ?_
      clear hF; intro a hF
      refine seq_yl hF (wn_none rfl) rfl rfl (yl_extract hF rfl rfl rfl) ?_
      clear hF; intro a hF
      refine seq_yl hF (wn_none rfl) rfl rfl (yl_extract hF rfl rfl rfl) ?_
      clear hF; intro a hF
      refine seq_yl hF (wn_none rfl) rfl rfl (yl_assign hF rfl rfl) ?_
      clear hF; intro a hF
      refine seq_yl hF (wn_none rfl) rfl rfl (yl_assign hF rfl rfl) ?_
      clear hF; intro a hF
      refine wpList_nil ?_
      refine then_n ?_
      refine c_seq ?_
      refine c_region ?_
      refine seq_yl hF (wn_none rfl) rfl rfl (yl_move hF rfl rfl) ?_
      clear hF; intro a hF
      refine seq_yl hF (wn_none rfl) rfl rfl (yl_move hF rfl rfl) ?_
      clear hF; intro a hF
      refine seq_yl hF (wn_none rfl) rfl rfl (yl_move hF rfl rfl) ?_
      clear hF; intro a hF
      replace hS := (hS.sub [3, 0, 1, 2] (by decide) (by first | rfl | simp) (by simp))
      refine seq_wp (wn_none rfl) (wp_call (vs := [_, _, _]) hF rfl rfl rfl rfl cf12 (charge2_ro _ _ _ _ G398 (((r400) - (1 : Int))) (65 : Int) hS (by omega)) ?_)
      clear hF; rintro _ w ⟨v448, rfl, hS1⟩ a hF; replace hS := hS1; clear hS1
      obtain ⟨Av448, cv448, rfl⟩ := (hS.rdRo 0 rfl).form
      refine seq_yl hF (wn_none rfl) rfl rfl (yl_move hF rfl rfl) ?_
      clear hF; intro a hF
      refine seq_yl hF (wn_none rfl) rfl rfl (yl_extract hF rfl rfl rfl) ?_
      clear hF; intro a hF
      refine seq_yl hF (wn_none rfl) rfl rfl (yl_extract hF rfl rfl rfl) ?_
      clear hF; intro a hF
      refine seq_yl hF (wn_none rfl) rfl rfl (yl_assign hF rfl rfl) ?_
      clear hF; intro a hF
      refine seq_yl hF (wn_none rfl) rfl rfl (yl_assign hF rfl rfl) ?_
      clear hF; intro a hF
      refine wpList_nil ?_
      refine then_n ?_
      refine c_seq ?_
      refine c_region ?_
      refine seq_yl hF (wn_none rfl) rfl rfl (yl_move hF rfl rfl) ?_
      clear hF; intro a hF
      refine seq_yl hF (wn_none rfl) rfl rfl (yl_move hF rfl rfl) ?_
      clear hF; intro a hF
      refine seq_yl hF (wn_none rfl) rfl rfl (yl_move hF rfl rfl) ?_
      clear hF; intro a hF
      refine seq_wp (wn_none rfl) (wp_call (vs := [_, _, _]) hF rfl rfl rfl rfl cf13 (uncharge_any _ G398 (((r400) - (1 : Int))) (65 : Int) _ (hS.rdRo 1 rfl) (by first | omega | (simp; done) | (simp; omega) | (rw [chF_len]; first | omega | (simp; done) | (simp; omega)) | (rw [unF_len]; first | omega | (simp; done) | (simp; omega)))) ?_)
      clear hF; rintro _ w ⟨v449, rfl, hS1⟩ a hF
      replace hS := hS.callB hS1 rfl; clear hS1
      obtain ⟨Av449, cv449, rfl⟩ := hS.form 0 rfl
      refine seq_yl hF (wn_none rfl) rfl rfl (yl_move hF rfl rfl) ?_
      clear hF; intro a hF
      refine seq_yl hF (wn_none rfl) rfl rfl (yl_extract hF rfl rfl rfl) ?_
      clear hF; intro a hF
      refine seq_yl hF (wn_none rfl) rfl rfl (yl_extract hF rfl rfl rfl) ?_
      clear hF; intro a hF
      refine seq_yl hF (wn_none rfl) rfl rfl (yl_assign hF rfl rfl) ?_
      clear hF; intro a hF
      refine seq_yl hF (wn_none rfl) rfl rfl (yl_assign hF rfl rfl) ?_
      clear hF; intro a hF
      refine wpList_nil ?_
      refine then_n ?_
      refine c_seq ?_
      refine c_region ?_
      refine seq_yl hF (wn_none rfl) rfl rfl (yl_move hF rfl rfl) ?_
      clear hF; intro a hF
      refine seq_yl hF (wn_none rfl) rfl rfl (yl_move hF rfl rfl) ?_
      clear hF; intro a hF
      refine seq_yl hF (wn_none rfl) rfl rfl (yl_move hF rfl rfl) ?_
      clear hF; intro a hF
      replace hS := (hS.sub [2, 0, 1, 3, 4, 5] (by decide) (by first | rfl | simp) (by simp))
      refine seq_wp (wn_none rfl) (wp_call (vs := [_, _, _]) hF rfl rfl rfl rfl cf14 (uncharge2_ro _ _ _ _ G398 (((r400) - (1 : Int))) (65 : Int) hS (by omega)) ?_)
      clear hF; rintro _ w ⟨v450, rfl, hS1⟩ a hF; replace hS := hS1; clear hS1
      obtain ⟨Av450, cv450, rfl⟩ := (hS.rdRo 0 rfl).form
      refine seq_yl hF (wn_none rfl) rfl rfl (yl_move hF rfl rfl) ?_
      clear hF; intro a hF
      refine seq_yl hF (wn_none rfl) rfl rfl (yl_extract hF rfl rfl rfl) ?_
      clear hF; intro a hF
      refine seq_yl hF (wn_none rfl) rfl rfl (yl_extract hF rfl rfl rfl) ?_
      clear hF; intro a hF
      refine seq_yl hF (wn_none rfl) rfl rfl (yl_assign hF rfl rfl) ?_
      clear hF; intro a hF
      refine seq_yl hF (wn_none rfl) rfl rfl (yl_assign hF rfl rfl) ?_
      clear hF; intro a hF
      refine wpList_nil ?_
      refine then_n ?_
      refine c_seq ?_
      refine c_region ?_
      refine seq_yl hF (wn_none rfl) rfl rfl (yl_move hF rfl rfl) ?_
      clear hF; intro a hF
      refine seq_yl hF (wn_none rfl) rfl rfl (yl_move hF rfl rfl) ?_
      clear hF; intro a hF
      have hd452 := divF_len4 G398 (65 : Int)
      refine seq_wp (wn_none rfl) (wp_call (vs := [_, _]) hF rfl rfl rfl rfl cf15 (divide_any _ G398 (65 : Int) (by omega) _ (hS.rdRo 1 rfl) (by first | omega | (simp; done) | (simp; omega) | (rw [chF_len]; first | omega | (simp; done) | (simp; omega)) | (rw [unF_len]; first | omega | (simp; done) | (simp; omega)))) ?_)
      clear hF; rintro _ w ⟨v451, rfl, hS1⟩ a hF
      replace hS := hS.callB hS1 rfl; clear hS1
      obtain ⟨Av451, cv451, rfl⟩ := hS.form 0 rfl
      refine seq_yl hF (wn_none rfl) rfl rfl (yl_move hF rfl rfl) ?_
      clear hF; intro a hF
      refine seq_yl hF (wn_none rfl) rfl rfl (yl_move hF rfl rfl) ?_
      clear hF; intro a hF
      have hd454 := divF_len4 G398 (65 : Int)
      refine seq_wp (wn_none rfl) (wp_call (vs := [_, _]) hF rfl rfl rfl rfl cf16 (divide2_any _ G398 (65 : Int) (by omega) _ (hS.rdRo 2 rfl) (by first | omega | (simp; done) | (simp; omega) | (rw [chF_len]; first | omega | (simp; done) | (simp; omega)) | (rw [unF_len]; first | omega | (simp; done) | (simp; omega)))) ?_)
      clear hF; rintro _ w ⟨v453, rfl, hS1⟩ a hF
      replace hS := hS.callB hS1 rfl; clear hS1
      obtain ⟨Av453, cv453, rfl⟩ := hS.form 0 rfl
      refine seq_yl hF (wn_none rfl) rfl rfl (yl_assign hF rfl rfl) ?_
      clear hF; intro a hF
      refine seq_yl hF (wn_none rfl) rfl rfl (yl_assign hF rfl rfl) ?_
      clear hF; intro a hF
      refine wpList_nil ?_
      refine then_n ?_
      refine c_seq ?_
      refine c_seq ?_
      refine c_region ?_
      refine seq_yl hF (wn_none rfl) rfl rfl (yl_move hF rfl rfl) ?_
      clear hF; intro a hF
      refine seq_yl hF (wn_none rfl) rfl rfl (yl_len hF rfl rfl (fun _ => run_lenRd sl22 (hS.rdRow 1 rfl))) ?_
      clear hF; intro a hF
      refine seq_yl hF (wn_none rfl) rfl rfl (yl_move hF rfl rfl) ?_
      clear hF; intro a hF
      refine seq_yl hF (wn_none rfl) rfl rfl (yl_len hF rfl rfl (fun _ => run_lenRd sl22 (hS.rdRow 0 rfl))) ?_
      clear hF; intro a hF
      refine seq_yl hF (wn_none rfl) rfl rfl (yl_bin hF rfl rfl rfl rfl (fun _ => run_neq)) ?_
      clear hF; intro a hF
      replace hF := fr_set (b' := false) hF (by simp)
      refine wpList_nil ?_
      refine then_n ?_
      refine c_cond_f hF rfl ?_
      refine wp_skip ?_
      refine then_n ?_
      refine c_seq ?_
      refine c_seq ?_
      refine c_region ?_
      refine seq_yl hF (wn_none rfl) rfl rfl (yl_assign hF rfl rfl) ?_
      clear hF; intro a hF
      refine wpList_nil ?_
      refine then_n ?_
      refine wp_block ?_
      refine c_loop (fun m a w => ∃ (p : Nat), m = ((divF G398 (65 : Int))).length - p ∧ (p ≤ ((divF G398 (65 : Int))).length) ∧ Fr 147 a [(2, .bool false), (4, .slice Av397 (G398).length cv397), (5, .int .i64 (((r400) - (1 : Int)))), (6, .int .i64 (65 : Int)), (7, .slice Av447 ((chF G398 (((r400) - (1 : Int))) (65 : Int)).1).length cv447), (8, .int .i64 ((chF G398 (((r400) - (1 : Int))) (65 : Int)).2)), (9, .slice Av448 ((chF G398 (((r400) - (1 : Int))) (65 : Int)).1).length cv448), (10, .int .i64 ((chF G398 (((r400) - (1 : Int))) (65 : Int)).2)), (11, .slice Av449 ((unF G398 (((r400) - (1 : Int))) (65 : Int)).1).length cv449), (12, .int .i64 ((unF G398 (((r400) - (1 : Int))) (65 : Int)).2)), (13, .slice Av450 ((unF G398 (((r400) - (1 : Int))) (65 : Int)).1).length cv450), (14, .int .i64 ((unF G398 (((r400) - (1 : Int))) (65 : Int)).2)), (15, .slice Av451 ((divF G398 (65 : Int))).length cv451), (16, .slice Av453 ((divF G398 (65 : Int))).length cv453), (17, .int .i64 ((p : Nat) : Int))] ∧ Sat w0 w (.row 3 1 (.slice Av453 ((divF G398 (65 : Int))).length cv453) ((divF G398 (65 : Int))).length (cells encI ((divF G398 (65 : Int)))) :: .row 3 1 (.slice Av451 ((divF G398 (65 : Int))).length cv451) ((divF G398 (65 : Int))).length (cells encI ((divF G398 (65 : Int)))) :: .ro 3 (.slice Av450 ((unF G398 (((r400) - (1 : Int))) (65 : Int)).1).length cv450) ((unF G398 (((r400) - (1 : Int))) (65 : Int)).1).length (cells enc36 ((unF G398 (((r400) - (1 : Int))) (65 : Int)).1)) :: .ro 3 (.slice Av397 (G398).length cv397) (G398).length (cells enc36 (G398)) :: .row 36 3 (.slice Av449 ((unF G398 (((r400) - (1 : Int))) (65 : Int)).1).length cv449) ((unF G398 (((r400) - (1 : Int))) (65 : Int)).1).length (cells enc36 ((unF G398 (((r400) - (1 : Int))) (65 : Int)).1)) :: .ro 3 (.slice Av448 ((chF G398 (((r400) - (1 : Int))) (65 : Int)).1).length cv448) ((chF G398 (((r400) - (1 : Int))) (65 : Int)).1).length (cells enc36 ((chF G398 (((r400) - (1 : Int))) (65 : Int)).1)) :: .row 36 3 (.slice Av447 ((chF G398 (((r400) - (1 : Int))) (65 : Int)).1).length cv447) ((chF G398 (((r400) - (1 : Int))) (65 : Int)).1).length (cells enc36 ((chF G398 (((r400) - (1 : Int))) (65 : Int)).1)) :: .box g396 25 #[.slice Av (L).length cv, .int .i64 ((it407 : Nat) : Int)] :: .ro 1 (.slice Av (L).length cv) (L).length (cells encI (L)) :: [])) (((divF G398 (65 : Int))).length - 0) ?_ ?_
      · exact ⟨0, rfl, Nat.zero_le _, hF.to [2, 4, 5, 6, 7, 8, 9, 10, 11, 12, 13, 14, 15, 16, 17] rfl, (hS.sub [0, 1, 2, 3, 4, 5, 6, 7, 8] (by decide) (by first | rfl | simp) (by simp))⟩
      · clear hF hS; try clear hSS
        clear a w; rintro m a w ⟨p, rfl, hinv, hF, hS⟩
        refine c_seq ?_
        refine c_seq ?_
        refine c_region ?_
        refine seq_yl hF (wn_none rfl) rfl rfl (yl_move hF rfl rfl) ?_
        clear hF; intro a hF
        refine seq_yl hF (wn_none rfl) rfl rfl (yl_move hF rfl rfl) ?_
        clear hF; intro a hF
        refine seq_yl hF (wn_none rfl) rfl rfl (yl_len hF rfl rfl (fun _ => run_lenRd sl22 (hS.rdRow 1 rfl))) ?_
        clear hF; intro a hF
        refine seq_yl hF (wn_none rfl) rfl rfl (yl_bin hF rfl rfl rfl rfl (fun _ => run_lss)) ?_
        clear hF; intro a hF
        refine wpList_nil ?_
        refine then_n ?_
        refine c_cond hF rfl (fun hc455 => ?_) (fun hc455 => ?_)
        · first | (replace hc455 := of_decide_eq_true hc455) | (replace hc455 := of_decide_eq_false (bnot_t hc455)) | (subst hc455) | (replace hc455 := bnot_t hc455; subst hc455) | (replace hc455 := bnot_t hc455) | skip
          refine wp_skip ?_
          refine then_n ?_
          refine c_seq ?_
          refine wp_block ?_
          refine c_seq ?_
          refine ha_startS hS [1, 0] 9 (by kernel_rfl) ?_; clear hS; intro w hS
          have hSS := hS.sub [1, 0] (by decide) rfl (by simp)
          refine ha_yl 0 hF rfl rfl rfl (by kernel_rfl) (by kernel_rfl) (by kernel_rfl) (by decide) (fun _ _ _ h => h) (wn_none rfl) (.inr hSS) (yl_move hF rfl rfl) ?_
          clear hF; intro a hF
          refine ha_yl 1 hF rfl rfl rfl (by kernel_rfl) (by kernel_rfl) (by kernel_rfl) (by decide) (fun _ _ _ h => h) (wn_none rfl) (.inr hSS) (yl_move hF rfl rfl) ?_
          clear hF; intro a hF
          have hlt_hx456 : p < ((divF G398 (65 : Int))).length := by first | omega | (simp; done) | (simp; omega)
          obtain ⟨ad457, rfl⟩ := rd_some (hS.rdRow 1 rfl) hlt_hx456
          obtain ⟨x456, hx456⟩ := get_some hlt_hx456
          refine ha_yl 2 hF rfl rfl rfl (by kernel_rfl) (by kernel_rfl) (by kernel_rfl) (by decide) (fun _ _ _ h => h) (wn_none rfl) (.inr hSS) (yl_indexAddr hF rfl rfl rfl (fun _ => run_idx' sl22 sz3 (hS.rdRow 1 rfl) hlt_hx456)) ?_
          clear hF; intro a hF
          refine ha_yl 4 hF rfl rfl rfl (by kernel_rfl) (by kernel_rfl) (by kernel_rfl) (by decide) (fun _ _ _ h => h) (wn_none rfl) (.inr hSS) (yl_move hF rfl rfl) ?_
          clear hF; intro a hF
          refine ha_yl 5 hF rfl rfl rfl (by kernel_rfl) (by kernel_rfl) (by kernel_rfl) (by decide) (fun _ _ _ h => h) (wn_none rfl) (.inr hSS) (yl_move hF rfl rfl) ?_
          clear hF; intro a hF
          have hlt_hx458 : p < ((divF G398 (65 : Int))).length := by first | omega | (simp; done) | (simp; omega)
          obtain ⟨ad459, rfl⟩ := rd_some (hS.rdRow 0 rfl) hlt_hx458
          obtain ⟨x458, hx458⟩ := get_some hlt_hx458
          refine ha_yl 6 hF rfl rfl rfl (by kernel_rfl) (by kernel_rfl) (by kernel_rfl) (by decide) (fun _ _ _ h => h) (wn_none rfl) (.inr hSS) (yl_indexAddr hF rfl rfl rfl (fun _ => run_idx' sl22 sz3 (hS.rdRow 0 rfl) hlt_hx458)) ?_
          clear hF; intro a hF
          refine ha_ld 3 hF rfl rfl rfl (by kernel_rfl) (by kernel_rfl) (by kernel_rfl) (by decide) (by kernel_rfl) (by kernel_rfl) (fun _ _ _ h => h) (wn_none rfl) hSS (yl_loadAt hF rfl rfl ag3 (fun _ h => rd_cell0 (enc := encI) (Sat.rdRow h 0 rfl) encI_len hx456 rfl rfl)) ?_
          clear hF; intro a hF
          refine ha_ld 7 hF rfl rfl rfl (by kernel_rfl) (by kernel_rfl) (by kernel_rfl) (by decide) (by kernel_rfl) (by kernel_rfl) (fun _ _ _ h => h) (wn_none rfl) hSS (yl_loadAt hF rfl rfl ag3 (fun _ h => rd_cell0 (enc := encI) (Sat.rdRow h 1 rfl) encI_len hx458 rfl rfl)) ?_
          clear hF; intro a hF
          refine ha_yl 8 hF rfl rfl rfl (by kernel_rfl) (by kernel_rfl) (by kernel_rfl) (by decide) (fun _ _ _ h => h) (wn_none rfl) (.inr hSS) (yl_bin hF rfl rfl rfl rfl (fun _ => run_neq)) ?_
          clear hF; intro a hF
          replace hF := fr_set (b' := false) hF (by have h9 := Option.some.inj (hx456.symm.trans hx458); rw [h9]; simp)
          refine ha_done (by kernel_rfl) ?_ _
          refine then_n ?_
          refine c_cond_f hF rfl ?_
          refine wp_skip ?_
          refine inb_n ?_
          refine then_n ?_
          refine c_region ?_
          refine seq_yl hF (wn_none rfl) rfl rfl (yl_move hF rfl rfl) ?_
          clear hF; intro a hF
          refine seq_yl hF (wn_none rfl) rfl rfl (yl_bin hF rfl rfl rfl rfl (fun _ => run_inc (by omega))) ?_
          clear hF; intro a hF
          refine seq_yl hF (wn_none rfl) rfl rfl (yl_assign hF rfl rfl) ?_
          clear hF; intro a hF
          refine wpList_nil ?_
          refine then_n ?_
          exact ⟨_, (by omega), p + 1, rfl, (by omega), hF.to [2, 4, 5, 6, 7, 8, 9, 10, 11, 12, 13, 14, 15, 16, 17] rfl, (hS.sub [0, 1, 2, 3, 4, 5, 6, 7, 8] (by decide) (by first | rfl | simp) (by simp))⟩
        · first | (replace hc455 := of_decide_eq_false hc455) | (replace hc455 := of_decide_eq_true (bnot_f hc455)) | (subst hc455) | (replace hc455 := bnot_f hc455; subst hc455) | (replace hc455 := bnot_f hc455) | skip
          refine wp_exit ?_
          refine then_x ?_
          refine then_x ?_
          refine inb_x ?_
          refine then_n ?_
          refine c_seq ?_
          refine c_seq ?_
          refine c_region ?_
          refine seq_yl hF (wn_none rfl) rfl rfl (yl_assign hF rfl rfl) ?_
          clear hF; intro a hF
          refine wpList_nil ?_
          refine then_n ?_
          refine wp_block ?_
          refine c_loop (fun m a w => ∃ (q : Nat), m = G398.length - q ∧ (q ≤ G398.length) ∧ Fr 147 a [(2, .bool false), (4, .slice Av397 (G398).length cv397), (5, .int .i64 (((r400) - (1 : Int)))), (6, .int .i64 (65 : Int)), (7, .slice Av447 ((chF G398 (((r400) - (1 : Int))) (65 : Int)).1).length cv447), (8, .int .i64 ((chF G398 (((r400) - (1 : Int))) (65 : Int)).2)), (9, .slice Av448 ((chF G398 (((r400) - (1 : Int))) (65 : Int)).1).length cv448), (10, .int .i64 ((chF G398 (((r400) - (1 : Int))) (65 : Int)).2)), (11, .slice Av449 ((unF G398 (((r400) - (1 : Int))) (65 : Int)).1).length cv449), (12, .int .i64 ((unF G398 (((r400) - (1 : Int))) (65 : Int)).2)), (13, .slice Av450 ((unF G398 (((r400) - (1 : Int))) (65 : Int)).1).length cv450), (14, .int .i64 ((unF G398 (((r400) - (1 : Int))) (65 : Int)).2)), (18, .int .i64 ((q : Nat) : Int))] ∧ Sat w0 w (.row 3 1 (.slice Av453 ((divF G398 (65 : Int))).length cv453) ((divF G398 (65 : Int))).length (cells encI ((divF G398 (65 : Int)))) :: .row 3 1 (.slice Av451 ((divF G398 (65 : Int))).length cv451) ((divF G398 (65 : Int))).length (cells encI ((divF G398 (65 : Int)))) :: .ro 3 (.slice Av450 ((unF G398 (((r400) - (1 : Int))) (65 : Int)).1).length cv450) ((unF G398 (((r400) - (1 : Int))) (65 : Int)).1).length (cells enc36 ((unF G398 (((r400) - (1 : Int))) (65 : Int)).1)) :: .ro 3 (.slice Av397 (G398).length cv397) (G398).length (cells enc36 (G398)) :: .row 36 3 (.slice Av449 ((unF G398 (((r400) - (1 : Int))) (65 : Int)).1).length cv449) ((unF G398 (((r400) - (1 : Int))) (65 : Int)).1).length (cells enc36 ((unF G398 (((r400) - (1 : Int))) (65 : Int)).1)) :: .ro 3 (.slice Av448 ((chF G398 (((r400) - (1 : Int))) (65 : Int)).1).length cv448) ((chF G398 (((r400) - (1 : Int))) (65 : Int)).1).length (cells enc36 ((chF G398 (((r400) - (1 : Int))) (65 : Int)).1)) :: .row 36 3 (.slice Av447 ((chF G398 (((r400) - (1 : Int))) (65 : Int)).1).length cv447) ((chF G398 (((r400) - (1 : Int))) (65 : Int)).1).length (cells enc36 ((chF G398 (((r400) - (1 : Int))) (65 : Int)).1)) :: .box g396 25 #[.slice Av (L).length cv, .int .i64 ((it407 : Nat) : Int)] :: .ro 1 (.slice Av (L).length cv) (L).length (cells encI (L)) :: [])) (G398.length - 0) ?_ ?_
          · exact ⟨0, rfl, Nat.zero_le _, hF.to [2, 4, 5, 6, 7, 8, 9, 10, 11, 12, 13, 14, 18] rfl, (hS.sub [0, 1, 2, 3, 4, 5, 6, 7, 8] (by decide) (by first | rfl | simp) (by simp))⟩
          · clear hF hS; try clear hSS
            clear a w; rintro m a w ⟨q, rfl, hinv, hF, hS⟩
            refine c_seq ?_
            refine c_seq ?_
            refine c_region ?_
            refine seq_yl hF (wn_none rfl) rfl rfl (yl_move hF rfl rfl) ?_
            clear hF; intro a hF
            refine seq_yl hF (wn_none rfl) rfl rfl (yl_move hF rfl rfl) ?_
            clear hF; intro a hF
            refine seq_yl hF (wn_none rfl) rfl rfl (yl_len hF rfl rfl (fun _ => run_lenRd sl26 (hS.rdRo 3 rfl))) ?_
            clear hF; intro a hF
            refine seq_yl hF (wn_none rfl) rfl rfl (yl_bin hF rfl rfl rfl rfl (fun _ => run_lss)) ?_
            clear hF; intro a hF
            refine wpList_nil ?_
            refine then_n ?_
            refine c_cond hF rfl (fun hc460 => ?_) (fun hc460 => ?_)
            · first | (replace hc460 := of_decide_eq_true hc460) | (replace hc460 := of_decide_eq_false (bnot_t hc460)) | (subst hc460) | (replace hc460 := bnot_t hc460; subst hc460) | (replace hc460 := bnot_t hc460) | skip
              refine wp_skip ?_
              refine then_n ?_
              refine c_seq ?_
              refine wp_block ?_
              refine c_seq ?_
              refine ha_startS hS [3] 11 (by kernel_rfl) ?_; clear hS; intro w hS
              have hSS := hS.sub [3] (by decide) rfl (by simp)
              refine ha_yl 0 hF rfl rfl rfl (by kernel_rfl) (by kernel_rfl) (by kernel_rfl) (by decide) (fun _ _ _ h => h) (wn_none rfl) (.inr hSS) (yl_move hF rfl rfl) ?_
              clear hF; intro a hF
              refine ha_yl 1 hF rfl rfl rfl (by kernel_rfl) (by kernel_rfl) (by kernel_rfl) (by decide) (fun _ _ _ h => h) (wn_none rfl) (.inr hSS) (yl_move hF rfl rfl) ?_
              clear hF; intro a hF
              have hlt_hx461 : q < (G398).length := by first | omega | (simp; done) | (simp; omega)
              obtain ⟨ad462, rfl⟩ := rd_some (hS.rdRo 3 rfl) hlt_hx461
              obtain ⟨x461, hx461⟩ := get_some hlt_hx461
              have hb_x461 := hRG398 x461 (List.mem_of_getElem? hx461)
              refine ha_yl 2 hF rfl rfl rfl (by kernel_rfl) (by kernel_rfl) (by kernel_rfl) (by decide) (fun _ _ _ h => h) (wn_none rfl) (.inr hSS) (yl_indexAddr hF rfl rfl rfl (fun _ => run_idx' sl26 sz36 (hS.rdRo 3 rfl) hlt_hx461)) ?_
              clear hF; intro a hF
              refine ha_yl 5 hF rfl rfl rfl (by kernel_rfl) (by kernel_rfl) (by kernel_rfl) (by decide) (fun _ _ _ h => h) (wn_none rfl) (.inr hSS) (yl_move hF rfl rfl) ?_
              clear hF; intro a hF
              refine ha_yl 6 hF rfl rfl rfl (by kernel_rfl) (by kernel_rfl) (by kernel_rfl) (by decide) (fun _ _ _ h => h) (wn_none rfl) (.inr hSS) (yl_move hF rfl rfl) ?_
              clear hF; intro a hF
              refine ha_yl 7 hF rfl rfl rfl (by kernel_rfl) (by kernel_rfl) (by kernel_rfl) (by decide) (fun _ _ _ h => h) (wn_none rfl) (.inr hSS) (yl_indexAddr hF rfl rfl rfl (fun _ => run_idx' sl26 sz36 (hS.rdRo 3 rfl) hlt_hx461)) ?_
              clear hF; intro a hF
              refine ha_ld 3 hF rfl rfl rfl (by kernel_rfl) (by kernel_rfl) (by kernel_rfl) (by decide) (by kernel_rfl) (by kernel_rfl) (fun _ _ _ h => h) (wn_none rfl) hSS (yl_loadEl (rs := [.int .i64 (x461.f0), .int .i64 (x461.f1), .int .i64 (x461.f2)]) hF rfl rfl ag36 sz36 rfl (fun _ h => rd_cells (enc := enc36) (Sat.rdRo h 0 rfl) enc36_len hx461)) ?_
              clear hF; intro a hF
              refine ha_ld 8 hF rfl rfl rfl (by kernel_rfl) (by kernel_rfl) (by kernel_rfl) (by decide) (by kernel_rfl) (by kernel_rfl) (fun _ _ _ h => h) (wn_none rfl) hSS (yl_loadEl (rs := [.int .i64 (x461.f0), .int .i64 (x461.f1), .int .i64 (x461.f2)]) hF rfl rfl ag36 sz36 rfl (fun _ h => rd_cells (enc := enc36) (Sat.rdRo h 0 rfl) enc36_len hx461)) ?_
              clear hF; intro a hF
              refine ha_one 4 (by kernel_rfl) rfl (wn_none rfl) (wp_call (vs := [_]) hF rfl rfl rfl rfl cf17 (excess_any x461 _ (by have h9 := hb_x461; unfold okR at h9; exact ⟨by omega, by omega⟩)) ?_)
              clear hF; rintro _ w ⟨rfl, hS1⟩ a hF
              replace hS := hS.callB hS1 rfl; clear hS1
              replace hSS := hS.sub [3] (by decide) rfl (by simp)
              refine ⟨.inr hSS, ?_⟩
              refine ha_one 9 (by kernel_rfl) rfl (wn_none rfl) (wp_call (vs := [_]) hF rfl rfl rfl rfl cf18 (excess2_any x461 _ (by have h9 := hb_x461; unfold okR at h9; exact ⟨by omega, by omega⟩)) ?_)
              clear hF; rintro _ w ⟨rfl, hS1⟩ a hF
              replace hS := hS.callB hS1 rfl; clear hS1
              replace hSS := hS.sub [3] (by decide) rfl (by simp)
              refine ⟨.inr hSS, ?_⟩
              refine ha_yl 10 hF rfl rfl rfl (by kernel_rfl) (by kernel_rfl) (by kernel_rfl) (by decide) (fun _ _ _ h => h) (wn_none rfl) (.inr hSS) (yl_bin hF rfl rfl rfl rfl (fun _ => run_neq)) ?_
              clear hF; intro a hF
              replace hF := fr_set (b' := false) hF (by simp)
              refine ha_done (by kernel_rfl) ?_ _
              refine then_n ?_
              refine c_cond_f hF rfl ?_
              refine wp_skip ?_
              refine inb_n ?_
              refine then_n ?_
              refine c_region ?_
              refine seq_yl hF (wn_none rfl) rfl rfl (yl_move hF rfl rfl) ?_
              clear hF; intro a hF
              refine seq_yl hF (wn_none rfl) rfl rfl (yl_bin hF rfl rfl rfl rfl (fun _ => run_inc (by omega))) ?_
              clear hF; intro a hF
              refine seq_yl hF (wn_none rfl) rfl rfl (yl_assign hF rfl rfl) ?_
              clear hF; intro a hF
              refine wpList_nil ?_
              refine then_n ?_
              exact ⟨_, (by omega), q + 1, rfl, (by omega), hF.to [2, 4, 5, 6, 7, 8, 9, 10, 11, 12, 13, 14, 18] rfl, (hS.sub [0, 1, 2, 3, 4, 5, 6, 7, 8] (by decide) (by first | rfl | simp) (by simp))⟩
            · first | (replace hc460 := of_decide_eq_false hc460) | (replace hc460 := of_decide_eq_true (bnot_f hc460)) | (subst hc460) | (replace hc460 := bnot_f hc460; subst hc460) | (replace hc460 := bnot_f hc460) | skip
              refine wp_exit ?_
              refine then_x ?_
              refine then_x ?_
              refine inb_x ?_
              refine then_n ?_
              refine c_seq ?_
              refine c_region ?_
              refine seq_yl hF (wn_none rfl) rfl rfl (yl_move hF rfl rfl) ?_
              clear hF; intro a hF
              refine seq_wp (wn_none rfl) (wp_call (vs := [_]) hF rfl rfl rfl rfl cf19 (check_any _ G398 _ (hS.rdRo 3 rfl) (by first | omega | (simp; done) | (simp; omega) | (rw [chF_len]; first | omega | (simp; done) | (simp; omega)) | (rw [unF_len]; first | omega | (simp; done) | (simp; omega)))) ?_)
              clear hF; rintro _ w ⟨rfl, hS1⟩ a hF
              replace hS := hS.callB hS1 rfl; clear hS1
              refine seq_yl hF (wn_none rfl) rfl rfl (yl_move hF rfl rfl) ?_
              clear hF; intro a hF
              refine seq_wp (wn_none rfl) (wp_call (vs := [_]) hF rfl rfl rfl rfl cf20 (check2_any _ G398 _ (hS.rdRo 3 rfl) (by first | omega | (simp; done) | (simp; omega) | (rw [chF_len]; first | omega | (simp; done) | (simp; omega)) | (rw [unF_len]; first | omega | (simp; done) | (simp; omega)))) ?_)
              clear hF; rintro _ w ⟨rfl, hS1⟩ a hF
              replace hS := hS.callB hS1 rfl; clear hS1
              refine seq_yl hF (wn_none rfl) rfl rfl (yl_bin hF rfl rfl rfl rfl (fun _ => run_eqb Try.underlying4)) ?_
              clear hF; intro a hF
              replace hF := fr_set (b' := true) hF (by simp)
              refine seq_yl hF (wn_none rfl) rfl rfl (yl_move hF rfl rfl) ?_
              clear hF; intro a hF
              refine seq_yl hF (wn_t hF rfl rfl rfl rfl) rfl rfl (yl_move hF rfl rfl) ?_
              clear hF; intro a hF
              refine seq_yl hF (wn_t hF rfl rfl rfl rfl) rfl rfl (yl_move hF rfl rfl) ?_
              clear hF; intro a hF
              refine seq_yl hF (wn_t hF rfl rfl rfl rfl) rfl rfl (yl_bin hF rfl rfl rfl rfl (fun _ => run_eql)) ?_
              clear hF; intro a hF
              replace hF := fr_set (b' := true) hF (by simp)
              refine seq_yl hF (wn_none rfl) rfl rfl (yl_pick (u := _) (v := undef) hF rfl rfl (fun _ => rfl) (fun h => by cases h)) ?_
              clear hF; intro a hF
              refine seq_yl hF (wn_none rfl) rfl rfl (yl_move hF rfl rfl) ?_
              clear hF; intro a hF
              refine seq_yl hF (wn_t hF rfl rfl rfl rfl) rfl rfl (yl_move hF rfl rfl) ?_
              clear hF; intro a hF
              refine seq_yl hF (wn_t hF rfl rfl rfl rfl) rfl rfl (yl_move hF rfl rfl) ?_
              clear hF; intro a hF
              refine seq_yl hF (wn_t hF rfl rfl rfl rfl) rfl rfl (yl_bin hF rfl rfl rfl rfl (fun _ => run_eql)) ?_
              clear hF; intro a hF
              replace hF := fr_set (b' := true) hF (by simp)
              refine seq_yl hF (wn_none rfl) rfl rfl (yl_pick (u := _) (v := undef) hF rfl rfl (fun _ => rfl) (fun h => by cases h)) ?_
              clear hF; intro a hF
              refine seq_yl hF (wn_none rfl) rfl rfl (yl_move hF rfl rfl) ?_
              clear hF; intro a hF
              refine seq_yl hF (wn_t hF rfl rfl rfl rfl) rfl rfl (yl_move hF rfl rfl) ?_
              clear hF; intro a hF
              refine seq_yl hF (wn_t hF rfl rfl rfl rfl) rfl rfl (yl_move hF rfl rfl) ?_
              clear hF; intro a hF
              refine seq_wp (wn_t hF rfl rfl rfl rfl) (wp_call (vs := [_, _]) hF rfl rfl rfl rfl cf21 (same_any _ _ (chF G398 (((r400) - (1 : Int))) (65 : Int)).1 (chF G398 (((r400) - (1 : Int))) (65 : Int)).1 _ (hS.rdRow 6 rfl) (hS.rdRo 5 rfl) (by first | omega | (simp; done) | (simp; omega) | (rw [chF_len]; first | omega | (simp; done) | (simp; omega)) | (rw [unF_len]; first | omega | (simp; done) | (simp; omega)))) ?_)
              clear hF; rintro _ w ⟨rfl, hS1⟩ a hF
              replace hS := hS.callB hS1 rfl; clear hS1
              replace hF := fr_set (b' := true) hF (by simp)
              refine seq_yl hF (wn_none rfl) rfl rfl (yl_pick (u := _) (v := undef) hF rfl rfl (fun _ => rfl) (fun h => by cases h)) ?_
              clear hF; intro a hF
              refine seq_yl hF (wn_none rfl) rfl rfl (yl_move hF rfl rfl) ?_
              clear hF; intro a hF
              refine seq_yl hF (wn_t hF rfl rfl rfl rfl) rfl rfl (yl_move hF rfl rfl) ?_
              clear hF; intro a hF
              refine seq_yl hF (wn_t hF rfl rfl rfl rfl) rfl rfl (yl_move hF rfl rfl) ?_
              clear hF; intro a hF
              refine seq_wp (wn_t hF rfl rfl rfl rfl) (wp_call (vs := [_, _]) hF rfl rfl rfl rfl cf21 (same_any _ _ (unF G398 (((r400) - (1 : Int))) (65 : Int)).1 (unF G398 (((r400) - (1 : Int))) (65 : Int)).1 _ (hS.rdRow 4 rfl) (hS.rdRo 2 rfl) (by first | omega | (simp; done) | (simp; omega) | (rw [chF_len]; first | omega | (simp; done) | (simp; omega)) | (rw [unF_len]; first | omega | (simp; done) | (simp; omega)))) ?_)
              clear hF; rintro _ w ⟨rfl, hS1⟩ a hF
              replace hS := hS.callB hS1 rfl; clear hS1
              replace hF := fr_set (b' := true) hF (by simp)
              refine seq_yl hF (wn_none rfl) rfl rfl (yl_pick (u := _) (v := undef) hF rfl rfl (fun _ => rfl) (fun h => by cases h)) ?_
              clear hF; intro a hF
              refine seq_yl hF (wn_none rfl) rfl rfl (yl_move hF rfl rfl) ?_
              clear hF; intro a hF
              refine seq_yl hF (wn_t hF rfl rfl rfl rfl) rfl rfl (yl_move hF rfl rfl) ?_
              clear hF; intro a hF
              refine seq_yl hF (wn_t hF rfl rfl rfl rfl) rfl rfl (yl_move hF rfl rfl) ?_
              clear hF; intro a hF
              refine seq_yl hF (wn_t hF rfl rfl rfl rfl) rfl rfl (yl_move hF rfl rfl) ?_
              clear hF; intro a hF
              refine seq_wp (wn_t hF rfl rfl rfl rfl) (wp_call (vs := [_, _, _]) hF rfl rfl rfl rfl cf22 (over_any _ G398 (((r400) - (1 : Int))) (65 : Int) _ (hS.rdRo 3 rfl) (by first | omega | (simp; done) | (simp; omega) | (rw [chF_len]; first | omega | (simp; done) | (simp; omega)) | (rw [unF_len]; first | omega | (simp; done) | (simp; omega)))) ?_)
              clear hF; rintro _ w ⟨rfl, hS1⟩ a hF
              replace hS := hS.callB hS1 rfl; clear hS1
              refine seq_yl hF (wn_t hF rfl rfl rfl rfl) rfl rfl (yl_move hF rfl rfl) ?_
              clear hF; intro a hF
              refine seq_yl hF (wn_t hF rfl rfl rfl rfl) rfl rfl (yl_move hF rfl rfl) ?_
              clear hF; intro a hF
              refine seq_yl hF (wn_t hF rfl rfl rfl rfl) rfl rfl (yl_move hF rfl rfl) ?_
              clear hF; intro a hF
              refine seq_wp (wn_t hF rfl rfl rfl rfl) (wp_call (vs := [_, _, _]) hF rfl rfl rfl rfl cf23 (over2_any _ G398 (((r400) - (1 : Int))) (65 : Int) _ (hS.rdRo 3 rfl) (by first | omega | (simp; done) | (simp; omega) | (rw [chF_len]; first | omega | (simp; done) | (simp; omega)) | (rw [unF_len]; first | omega | (simp; done) | (simp; omega)))) ?_)
              clear hF; rintro _ w ⟨rfl, hS1⟩ a hF
              replace hS := hS.callB hS1 rfl; clear hS1
              refine seq_yl hF (wn_t hF rfl rfl rfl rfl) rfl rfl (yl_bin hF rfl rfl rfl rfl (fun _ => run_eql)) ?_
              clear hF; intro a hF
              replace hF := fr_set (b' := true) hF (by simp)
              refine seq_yl hF (wn_none rfl) rfl rfl (yl_pick (u := _) (v := undef) hF rfl rfl (fun _ => rfl) (fun h => by cases h)) ?_
              clear hF; intro a hF
              refine seq_yl hF (wn_none rfl) rfl rfl (yl_move hF rfl rfl) ?_
              clear hF; intro a hF
              refine seq_wp (wn_t hF rfl rfl rfl rfl) (wp_call (vs := []) hF rfl rfl rfl rfl cf24 (awake_any _) ?_)
              clear hF; rintro _ w ⟨rfl, hS1⟩ a hF
              replace hS := hS.callB hS1 rfl; clear hS1
              refine seq_yl hF (wn_none rfl) rfl rfl (yl_pick (u := _) (v := undef) hF rfl rfl (fun _ => rfl) (fun h => by cases h)) ?_
              clear hF; intro a hF
              refine seq_yl hF (wn_none rfl) rfl rfl (yl_assign hF rfl rfl) ?_
              clear hF; intro a hF
              refine wpList_nil ?_
              refine then_n ?_
              refine wp_ret ?_
              refine ret_t hF rfl rfl ?_
              exact ⟨_, rfl, rfl, (hS.sub [] (by decide) (by first | rfl | simp) (by simp))⟩
    · first | (replace hc446 := of_decide_eq_false hc446) | (replace hc446 := of_decide_eq_true (bnot_f hc446)) | (subst hc446) | (replace hc446 := bnot_f hc446; subst hc446) | (replace hc446 := bnot_f hc446) | skip
      refine wp_skip ?_
      refine then_n ?_
      refine c_seq ?_
      refine c_region ?_
      refine seq_yl hF (wn_none rfl) rfl rfl (yl_move hF rfl rfl) ?_
      clear hF; intro a hF
      refine seq_yl hF (wn_none rfl) rfl rfl (yl_move hF rfl rfl) ?_
      clear hF; intro a hF
      refine seq_yl hF (wn_none rfl) rfl rfl (yl_move hF rfl rfl) ?_
      clear hF; intro a hF
      refine seq_wp (wn_none rfl) (wp_call (vs := [_, _, _]) hF rfl rfl rfl rfl cf11 (charge_any _ G398 (((r400) - (1 : Int))) (((r403) - (1 : Int))) _ (hS.rdRo 2 rfl) (by first | omega | (simp; done) | (simp; omega) | (rw [chF_len]; first | omega | (simp; done) | (simp; omega)) | (rw [unF_len]; first | omega | (simp; done) | (simp; omega)))) ?_)
      clear hF; rintro _ w ⟨v463, rfl, hS1⟩ a hF
      replace hS := hS.callB hS1 rfl; clear hS1
      obtain ⟨Av463, cv463, rfl⟩ := hS.form 0 rfl
      refine seq_yl hF (wn_none rfl) rfl rfl (yl_move hF rfl rfl) ?_
      clear hF; intro a hF
      refine seq_yl hF (wn_none rfl) rfl rfl (yl_extract hF rfl rfl rfl) ?_
      clear hF; intro a hF
      refine seq_yl hF (wn_none rfl) rfl rfl (yl_extract hF rfl rfl rfl) ?_
      clear hF; intro a hF
      refine seq_yl hF (wn_none rfl) rfl rfl (yl_assign hF rfl rfl) ?_
      clear hF; intro a hF
      refine seq_yl hF (wn_none rfl) rfl rfl (yl_assign hF rfl rfl) ?_
      clear hF; intro a hF
      refine wpList_nil ?_
      refine then_n ?_
      refine c_seq ?_
      refine c_region ?_
      refine seq_yl hF (wn_none rfl) rfl rfl (yl_move hF rfl rfl) ?_
      clear hF; intro a hF
      refine seq_yl hF (wn_none rfl) rfl rfl (yl_move hF rfl rfl) ?_
      clear hF; intro a hF
      refine seq_yl hF (wn_none rfl) rfl rfl (yl_move hF rfl rfl) ?_
      clear hF; intro a hF
      replace hS := (hS.sub [3, 0, 1, 2] (by decide) (by first | rfl | simp) (by simp))
      refine seq_wp (wn_none rfl) (wp_call (vs := [_, _, _]) hF rfl rfl rfl rfl cf12 (charge2_ro _ _ _ _ G398 (((r400) - (1 : Int))) (((r403) - (1 : Int))) hS (by omega)) ?_)
      clear hF; rintro _ w ⟨v464, rfl, hS1⟩ a hF; replace hS := hS1; clear hS1
      obtain ⟨Av464, cv464, rfl⟩ := (hS.rdRo 0 rfl).form
      refine seq_yl hF (wn_none rfl) rfl rfl (yl_move hF rfl rfl) ?_
      clear hF; intro a hF
      refine seq_yl hF (wn_none rfl) rfl rfl (yl_extract hF rfl rfl rfl) ?_
      clear hF; intro a hF
      refine seq_yl hF (wn_none rfl) rfl rfl (yl_extract hF rfl rfl rfl) ?_
      clear hF; intro a hF
      refine seq_yl hF (wn_none rfl) rfl rfl (yl_assign hF rfl rfl) ?_
      clear hF; intro a hF
      refine seq_yl hF (wn_none rfl) rfl rfl (yl_assign hF rfl rfl) ?_
      clear hF; intro a hF
      refine wpList_nil ?_
      refine then_n ?_
      refine c_seq ?_
      refine c_region ?_
      refine seq_yl hF (wn_none rfl) rfl rfl (yl_move hF rfl rfl) ?_
      clear hF; intro a hF
      refine seq_yl hF (wn_none rfl) rfl rfl (yl_move hF rfl rfl) ?_
      clear hF; intro a hF
      refine seq_yl hF (wn_none rfl) rfl rfl (yl_move hF rfl rfl) ?_
      clear hF; intro a hF
      refine seq_wp (wn_none rfl) (wp_call (vs := [_, _, _]) hF rfl rfl rfl rfl cf13 (uncharge_any _ G398 (((r400) - (1 : Int))) (((r403) - (1 : Int))) _ (hS.rdRo 1 rfl) (by first | omega | (simp; done) | (simp; omega) | (rw [chF_len]; first | omega | (simp; done) | (simp; omega)) | (rw [unF_len]; first | omega | (simp; done) | (simp; omega)))) ?_)
      clear hF; rintro _ w ⟨v465, rfl, hS1⟩ a hF
      replace hS := hS.callB hS1 rfl; clear hS1
      obtain ⟨Av465, cv465, rfl⟩ := hS.form 0 rfl
      refine seq_yl hF (wn_none rfl) rfl rfl (yl_move hF rfl rfl) ?_
      clear hF; intro a hF
      refine seq_yl hF (wn_none rfl) rfl rfl (yl_extract hF rfl rfl rfl) ?_
      clear hF; intro a hF
      refine seq_yl hF (wn_none rfl) rfl rfl (yl_extract hF rfl rfl rfl) ?_
      clear hF; intro a hF
      refine seq_yl hF (wn_none rfl) rfl rfl (yl_assign hF rfl rfl) ?_
      clear hF; intro a hF
      refine seq_yl hF (wn_none rfl) rfl rfl (yl_assign hF rfl rfl) ?_
      clear hF; intro a hF
      refine wpList_nil ?_
      refine then_n ?_
      refine c_seq ?_
      refine c_region ?_
      refine seq_yl hF (wn_none rfl) rfl rfl (yl_move hF rfl rfl) ?_
      clear hF; intro a hF
      refine seq_yl hF (wn_none rfl) rfl rfl (yl_move hF rfl rfl) ?_
      clear hF; intro a hF
      refine seq_yl hF (wn_none rfl) rfl rfl (yl_move hF rfl rfl) ?_
      clear hF; intro a hF
      replace hS := (hS.sub [2, 0, 1, 3, 4, 5] (by decide) (by first | rfl | simp) (by simp))
      refine seq_wp (wn_none rfl) (wp_call (vs := [_, _, _]) hF rfl rfl rfl rfl cf14 (uncharge2_ro _ _ _ _ G398 (((r400) - (1 : Int))) (((r403) - (1 : Int))) hS (by omega)) ?_)
      clear hF; rintro _ w ⟨v466, rfl, hS1⟩ a hF; replace hS := hS1; clear hS1
      obtain ⟨Av466, cv466, rfl⟩ := (hS.rdRo 0 rfl).form
      refine seq_yl hF (wn_none rfl) rfl rfl (yl_move hF rfl rfl) ?_
      clear hF; intro a hF
      refine seq_yl hF (wn_none rfl) rfl rfl (yl_extract hF rfl rfl rfl) ?_
      clear hF; intro a hF
      refine seq_yl hF (wn_none rfl) rfl rfl (yl_extract hF rfl rfl rfl) ?_
      clear hF; intro a hF
      refine seq_yl hF (wn_none rfl) rfl rfl (yl_assign hF rfl rfl) ?_
      clear hF; intro a hF
      refine seq_yl hF (wn_none rfl) rfl rfl (yl_assign hF rfl rfl) ?_
      clear hF; intro a hF
      refine wpList_nil ?_
      refine then_n ?_
      refine c_seq ?_
      refine c_region ?_
      refine seq_yl hF (wn_none rfl) rfl rfl (yl_move hF rfl rfl) ?_
      clear hF; intro a hF
      refine seq_yl hF (wn_none rfl) rfl rfl (yl_move hF rfl rfl) ?_
      clear hF; intro a hF
      have hd468 := divF_len4 G398 (((r403) - (1 : Int)))
      refine seq_wp (wn_none rfl) (wp_call (vs := [_, _]) hF rfl rfl rfl rfl cf15 (divide_any _ G398 (((r403) - (1 : Int))) (by omega) _ (hS.rdRo 1 rfl) (by first | omega | (simp; done) | (simp; omega) | (rw [chF_len]; first | omega | (simp; done) | (simp; omega)) | (rw [unF_len]; first | omega | (simp; done) | (simp; omega)))) ?_)
      clear hF; rintro _ w ⟨v467, rfl, hS1⟩ a hF
      replace hS := hS.callB hS1 rfl; clear hS1
      obtain ⟨Av467, cv467, rfl⟩ := hS.form 0 rfl
      refine seq_yl hF (wn_none rfl) rfl rfl (yl_move hF rfl rfl) ?_
      clear hF; intro a hF
      refine seq_yl hF (wn_none rfl) rfl rfl (yl_move hF rfl rfl) ?_
      clear hF; intro a hF
      have hd470 := divF_len4 G398 (((r403) - (1 : Int)))
      refine seq_wp (wn_none rfl) (wp_call (vs := [_, _]) hF rfl rfl rfl rfl cf16 (divide2_any _ G398 (((r403) - (1 : Int))) (by omega) _ (hS.rdRo 2 rfl) (by first | omega | (simp; done) | (simp; omega) | (rw [chF_len]; first | omega | (simp; done) | (simp; omega)) | (rw [unF_len]; first | omega | (simp; done) | (simp; omega)))) ?_)
      clear hF; rintro _ w ⟨v469, rfl, hS1⟩ a hF
      replace hS := hS.callB hS1 rfl; clear hS1
      obtain ⟨Av469, cv469, rfl⟩ := hS.form 0 rfl
      refine seq_yl hF (wn_none rfl) rfl rfl (yl_assign hF rfl rfl) ?_
      clear hF; intro a hF
      refine seq_yl hF (wn_none rfl) rfl rfl (yl_assign hF rfl rfl) ?_
      clear hF; intro a hF
      refine wpList_nil ?_
      refine then_n ?_
      refine c_seq ?_
      refine c_seq ?_
      refine c_region ?_
      refine seq_yl hF (wn_none rfl) rfl rfl (yl_move hF rfl rfl) ?_
      clear hF; intro a hF
      refine seq_yl hF (wn_none rfl) rfl rfl (yl_len hF rfl rfl (fun _ => run_lenRd sl22 (hS.rdRow 1 rfl))) ?_
      clear hF; intro a hF
      refine seq_yl hF (wn_none rfl) rfl rfl (yl_move hF rfl rfl) ?_
      clear hF; intro a hF
      refine seq_yl hF (wn_none rfl) rfl rfl (yl_len hF rfl rfl (fun _ => run_lenRd sl22 (hS.rdRow 0 rfl))) ?_
      clear hF; intro a hF
      refine seq_yl hF (wn_none rfl) rfl rfl (yl_bin hF rfl rfl rfl rfl (fun _ => run_neq)) ?_
      clear hF; intro a hF
      replace hF := fr_set (b' := false) hF (by simp)
      refine wpList_nil ?_
      refine then_n ?_
      refine c_cond_f hF rfl ?_
      refine wp_skip ?_
      refine then_n ?_
      refine c_seq ?_
      refine c_seq ?_
      refine c_region ?_
      refine seq_yl hF (wn_none rfl) rfl rfl (yl_assign hF rfl rfl) ?_
      clear hF; intro a hF
      refine wpList_nil ?_
      refine then_n ?_
      refine wp_block ?_
      refine c_loop (fun m a w => ∃ (p : Nat), m = ((divF G398 (((r403) - (1 : Int))))).length - p ∧ (p ≤ ((divF G398 (((r403) - (1 : Int))))).length) ∧ Fr 147 a [(2, .bool false), (4, .slice Av397 (G398).length cv397), (5, .int .i64 (((r400) - (1 : Int)))), (6, .int .i64 (((r403) - (1 : Int)))), (7, .slice Av463 ((chF G398 (((r400) - (1 : Int))) (((r403) - (1 : Int)))).1).length cv463), (8, .int .i64 ((chF G398 (((r400) - (1 : Int))) (((r403) - (1 : Int)))).2)), (9, .slice Av464 ((chF G398 (((r400) - (1 : Int))) (((r403) - (1 : Int)))).1).length cv464), (10, .int .i64 ((chF G398 (((r400) - (1 : Int))) (((r403) - (1 : Int)))).2)), (11, .slice Av465 ((unF G398 (((r400) - (1 : Int))) (((r403) - (1 : Int)))).1).length cv465), (12, .int .i64 ((unF G398 (((r400) - (1 : Int))) (((r403) - (1 : Int)))).2)), (13, .slice Av466 ((unF G398 (((r400) - (1 : Int))) (((r403) - (1 : Int)))).1).length cv466), (14, .int .i64 ((unF G398 (((r400) - (1 : Int))) (((r403) - (1 : Int)))).2)), (15, .slice Av467 ((divF G398 (((r403) - (1 : Int))))).length cv467), (16, .slice Av469 ((divF G398 (((r403) - (1 : Int))))).length cv469), (17, .int .i64 ((p : Nat) : Int))] ∧ Sat w0 w (.row 3 1 (.slice Av469 ((divF G398 (((r403) - (1 : Int))))).length cv469) ((divF G398 (((r403) - (1 : Int))))).length (cells encI ((divF G398 (((r403) - (1 : Int)))))) :: .row 3 1 (.slice Av467 ((divF G398 (((r403) - (1 : Int))))).length cv467) ((divF G398 (((r403) - (1 : Int))))).length (cells encI ((divF G398 (((r403) - (1 : Int)))))) :: .ro 3 (.slice Av466 ((unF G398 (((r400) - (1 : Int))) (((r403) - (1 : Int)))).1).length cv466) ((unF G398 (((r400) - (1 : Int))) (((r403) - (1 : Int)))).1).length (cells enc36 ((unF G398 (((r400) - (1 : Int))) (((r403) - (1 : Int)))).1)) :: .ro 3 (.slice Av397 (G398).length cv397) (G398).length (cells enc36 (G398)) :: .row 36 3 (.slice Av465 ((unF G398 (((r400) - (1 : Int))) (((r403) - (1 : Int)))).1).length cv465) ((unF G398 (((r400) - (1 : Int))) (((r403) - (1 : Int)))).1).length (cells enc36 ((unF G398 (((r400) - (1 : Int))) (((r403) - (1 : Int)))).1)) :: .ro 3 (.slice Av464 ((chF G398 (((r400) - (1 : Int))) (((r403) - (1 : Int)))).1).length cv464) ((chF G398 (((r400) - (1 : Int))) (((r403) - (1 : Int)))).1).length (cells enc36 ((chF G398 (((r400) - (1 : Int))) (((r403) - (1 : Int)))).1)) :: .row 36 3 (.slice Av463 ((chF G398 (((r400) - (1 : Int))) (((r403) - (1 : Int)))).1).length cv463) ((chF G398 (((r400) - (1 : Int))) (((r403) - (1 : Int)))).1).length (cells enc36 ((chF G398 (((r400) - (1 : Int))) (((r403) - (1 : Int)))).1)) :: .box g396 25 #[.slice Av (L).length cv, .int .i64 ((it407 : Nat) : Int)] :: .ro 1 (.slice Av (L).length cv) (L).length (cells encI (L)) :: [])) (((divF G398 (((r403) - (1 : Int))))).length - 0) ?_ ?_
      · exact ⟨0, rfl, Nat.zero_le _, hF.to [2, 4, 5, 6, 7, 8, 9, 10, 11, 12, 13, 14, 15, 16, 17] rfl, (hS.sub [0, 1, 2, 3, 4, 5, 6, 7, 8] (by decide) (by first | rfl | simp) (by simp))⟩
      · clear hF hS; try clear hSS
        clear a w; rintro m a w ⟨p, rfl, hinv, hF, hS⟩
        refine c_seq ?_
        refine c_seq ?_
        refine c_region ?_
        refine seq_yl hF (wn_none rfl) rfl rfl (yl_move hF rfl rfl) ?_
        clear hF; intro a hF
        refine seq_yl hF (wn_none rfl) rfl rfl (yl_move hF rfl rfl) ?_
        clear hF; intro a hF
        refine seq_yl hF (wn_none rfl) rfl rfl (yl_len hF rfl rfl (fun _ => run_lenRd sl22 (hS.rdRow 1 rfl))) ?_
        clear hF; intro a hF
        refine seq_yl hF (wn_none rfl) rfl rfl (yl_bin hF rfl rfl rfl rfl (fun _ => run_lss)) ?_
        clear hF; intro a hF
        refine wpList_nil ?_
        refine then_n ?_
        refine c_cond hF rfl (fun hc471 => ?_) (fun hc471 => ?_)
        · first | (replace hc471 := of_decide_eq_true hc471) | (replace hc471 := of_decide_eq_false (bnot_t hc471)) | (subst hc471) | (replace hc471 := bnot_t hc471; subst hc471) | (replace hc471 := bnot_t hc471) | skip
          refine wp_skip ?_
          refine then_n ?_
          refine c_seq ?_
          refine wp_block ?_
          refine c_seq ?_
          refine ha_startS hS [1, 0] 9 (by kernel_rfl) ?_; clear hS; intro w hS
          have hSS := hS.sub [1, 0] (by decide) rfl (by simp)
          refine ha_yl 0 hF rfl rfl rfl (by kernel_rfl) (by kernel_rfl) (by kernel_rfl) (by decide) (fun _ _ _ h => h) (wn_none rfl) (.inr hSS) (yl_move hF rfl rfl) ?_
          clear hF; intro a hF
          refine ha_yl 1 hF rfl rfl rfl (by kernel_rfl) (by kernel_rfl) (by kernel_rfl) (by decide) (fun _ _ _ h => h) (wn_none rfl) (.inr hSS) (yl_move hF rfl rfl) ?_
          clear hF; intro a hF
          have hlt_hx472 : p < ((divF G398 (((r403) - (1 : Int))))).length := by first | omega | (simp; done) | (simp; omega)
          obtain ⟨ad473, rfl⟩ := rd_some (hS.rdRow 1 rfl) hlt_hx472
          obtain ⟨x472, hx472⟩ := get_some hlt_hx472
          refine ha_yl 2 hF rfl rfl rfl (by kernel_rfl) (by kernel_rfl) (by kernel_rfl) (by decide) (fun _ _ _ h => h) (wn_none rfl) (.inr hSS) (yl_indexAddr hF rfl rfl rfl (fun _ => run_idx' sl22 sz3 (hS.rdRow 1 rfl) hlt_hx472)) ?_
          clear hF; intro a hF
          refine ha_yl 4 hF rfl rfl rfl (by kernel_rfl) (by kernel_rfl) (by kernel_rfl) (by decide) (fun _ _ _ h => h) (wn_none rfl) (.inr hSS) (yl_move hF rfl rfl) ?_
          clear hF; intro a hF
          refine ha_yl 5 hF rfl rfl rfl (by kernel_rfl) (by kernel_rfl) (by kernel_rfl) (by decide) (fun _ _ _ h => h) (wn_none rfl) (.inr hSS) (yl_move hF rfl rfl) ?_
          clear hF; intro a hF
          have hlt_hx474 : p < ((divF G398 (((r403) - (1 : Int))))).length := by first | omega | (simp; done) | (simp; omega)
          obtain ⟨ad475, rfl⟩ := rd_some (hS.rdRow 0 rfl) hlt_hx474
          obtain ⟨x474, hx474⟩ := get_some hlt_hx474
          refine ha_yl 6 hF rfl rfl rfl (by kernel_rfl) (by kernel_rfl) (by kernel_rfl) (by decide) (fun _ _ _ h => h) (wn_none rfl) (.inr hSS) (yl_indexAddr hF rfl rfl rfl (fun _ => run_idx' sl22 sz3 (hS.rdRow 0 rfl) hlt_hx474)) ?_
          clear hF; intro a hF
          refine ha_ld 3 hF rfl rfl rfl (by kernel_rfl) (by kernel_rfl) (by kernel_rfl) (by decide) (by kernel_rfl) (by kernel_rfl) (fun _ _ _ h => h) (wn_none rfl) hSS (yl_loadAt hF rfl rfl ag3 (fun _ h => rd_cell0 (enc := encI) (Sat.rdRow h 0 rfl) encI_len hx472 rfl rfl)) ?_
          clear hF; intro a hF
          refine ha_ld 7 hF rfl rfl rfl (by kernel_rfl) (by kernel_rfl) (by kernel_rfl) (by decide) (by kernel_rfl) (by kernel_rfl) (fun _ _ _ h => h) (wn_none rfl) hSS (yl_loadAt hF rfl rfl ag3 (fun _ h => rd_cell0 (enc := encI) (Sat.rdRow h 1 rfl) encI_len hx474 rfl rfl)) ?_
          clear hF; intro a hF
          refine ha_yl 8 hF rfl rfl rfl (by kernel_rfl) (by kernel_rfl) (by kernel_rfl) (by decide) (fun _ _ _ h => h) (wn_none rfl) (.inr hSS) (yl_bin hF rfl rfl rfl rfl (fun _ => run_neq)) ?_
          clear hF; intro a hF
          replace hF := fr_set (b' := false) hF (by have h9 := Option.some.inj (hx472.symm.trans hx474); rw [h9]; simp)
          refine ha_done (by kernel_rfl) ?_ _
          refine then_n ?_
          refine c_cond_f hF rfl ?_
          refine wp_skip ?_
          refine inb_n ?_
          refine then_n ?_
          refine c_region ?_
          refine seq_yl hF (wn_none rfl) rfl rfl (yl_move hF rfl rfl) ?_
          clear hF; intro a hF
          refine seq_yl hF (wn_none rfl) rfl rfl (yl_bin hF rfl rfl rfl rfl (fun _ => run_inc (by omega))) ?_
          clear hF; intro a hF
          refine seq_yl hF (wn_none rfl) rfl rfl (yl_assign hF rfl rfl) ?_
          clear hF; intro a hF
          refine wpList_nil ?_
          refine then_n ?_
          exact ⟨_, (by omega), p + 1, rfl, (by omega), hF.to [2, 4, 5, 6, 7, 8, 9, 10, 11, 12, 13, 14, 15, 16, 17] rfl, (hS.sub [0, 1, 2, 3, 4, 5, 6, 7, 8] (by decide) (by first | rfl | simp) (by simp))⟩
        · first | (replace hc471 := of_decide_eq_false hc471) | (replace hc471 := of_decide_eq_true (bnot_f hc471)) | (subst hc471) | (replace hc471 := bnot_f hc471; subst hc471) | (replace hc471 := bnot_f hc471) | skip
          refine wp_exit ?_
          refine then_x ?_
          refine then_x ?_
          refine inb_x ?_
          refine then_n ?_
          refine c_seq ?_
          refine c_seq ?_
          refine c_region ?_
          refine seq_yl hF (wn_none rfl) rfl rfl (yl_assign hF rfl rfl) ?_
          clear hF; intro a hF
          refine wpList_nil ?_
          refine then_n ?_
          refine wp_block ?_
          refine c_loop (fun m a w => ∃ (q : Nat), m = G398.length - q ∧ (q ≤ G398.length) ∧ Fr 147 a [(2, .bool false), (4, .slice Av397 (G398).length cv397), (5, .int .i64 (((r400) - (1 : Int)))), (6, .int .i64 (((r403) - (1 : Int)))), (7, .slice Av463 ((chF G398 (((r400) - (1 : Int))) (((r403) - (1 : Int)))).1).length cv463), (8, .int .i64 ((chF G398 (((r400) - (1 : Int))) (((r403) - (1 : Int)))).2)), (9, .slice Av464 ((chF G398 (((r400) - (1 : Int))) (((r403) - (1 : Int)))).1).length cv464), (10, .int .i64 ((chF G398 (((r400) - (1 : Int))) (((r403) - (1 : Int)))).2)), (11, .slice Av465 ((unF G398 (((r400) - (1 : Int))) (((r403) - (1 : Int)))).1).length cv465), (12, .int .i64 ((unF G398 (((r400) - (1 : Int))) (((r403) - (1 : Int)))).2)), (13, .slice Av466 ((unF G398 (((r400) - (1 : Int))) (((r403) - (1 : Int)))).1).length cv466), (14, .int .i64 ((unF G398 (((r400) - (1 : Int))) (((r403) - (1 : Int)))).2)), (18, .int .i64 ((q : Nat) : Int))] ∧ Sat w0 w (.row 3 1 (.slice Av469 ((divF G398 (((r403) - (1 : Int))))).length cv469) ((divF G398 (((r403) - (1 : Int))))).length (cells encI ((divF G398 (((r403) - (1 : Int)))))) :: .row 3 1 (.slice Av467 ((divF G398 (((r403) - (1 : Int))))).length cv467) ((divF G398 (((r403) - (1 : Int))))).length (cells encI ((divF G398 (((r403) - (1 : Int)))))) :: .ro 3 (.slice Av466 ((unF G398 (((r400) - (1 : Int))) (((r403) - (1 : Int)))).1).length cv466) ((unF G398 (((r400) - (1 : Int))) (((r403) - (1 : Int)))).1).length (cells enc36 ((unF G398 (((r400) - (1 : Int))) (((r403) - (1 : Int)))).1)) :: .ro 3 (.slice Av397 (G398).length cv397) (G398).length (cells enc36 (G398)) :: .row 36 3 (.slice Av465 ((unF G398 (((r400) - (1 : Int))) (((r403) - (1 : Int)))).1).length cv465) ((unF G398 (((r400) - (1 : Int))) (((r403) - (1 : Int)))).1).length (cells enc36 ((unF G398 (((r400) - (1 : Int))) (((r403) - (1 : Int)))).1)) :: .ro 3 (.slice Av464 ((chF G398 (((r400) - (1 : Int))) (((r403) - (1 : Int)))).1).length cv464) ((chF G398 (((r400) - (1 : Int))) (((r403) - (1 : Int)))).1).length (cells enc36 ((chF G398 (((r400) - (1 : Int))) (((r403) - (1 : Int)))).1)) :: .row 36 3 (.slice Av463 ((chF G398 (((r400) - (1 : Int))) (((r403) - (1 : Int)))).1).length cv463) ((chF G398 (((r400) - (1 : Int))) (((r403) - (1 : Int)))).1).length (cells enc36 ((chF G398 (((r400) - (1 : Int))) (((r403) - (1 : Int)))).1)) :: .box g396 25 #[.slice Av (L).length cv, .int .i64 ((it407 : Nat) : Int)] :: .ro 1 (.slice Av (L).length cv) (L).length (cells encI (L)) :: [])) (G398.length - 0) ?_ ?_
          · exact ⟨0, rfl, Nat.zero_le _, hF.to [2, 4, 5, 6, 7, 8, 9, 10, 11, 12, 13, 14, 18] rfl, (hS.sub [0, 1, 2, 3, 4, 5, 6, 7, 8] (by decide) (by first | rfl | simp) (by simp))⟩
          · clear hF hS; try clear hSS
            clear a w; rintro m a w ⟨q, rfl, hinv, hF, hS⟩
            refine c_seq ?_
            refine c_seq ?_
            refine c_region ?_
            refine seq_yl hF (wn_none rfl) rfl rfl (yl_move hF rfl rfl) ?_
            clear hF; intro a hF
            refine seq_yl hF (wn_none rfl) rfl rfl (yl_move hF rfl rfl) ?_
            clear hF; intro a hF
            refine seq_yl hF (wn_none rfl) rfl rfl (yl_len hF rfl rfl (fun _ => run_lenRd sl26 (hS.rdRo 3 rfl))) ?_
            clear hF; intro a hF
            refine seq_yl hF (wn_none rfl) rfl rfl (yl_bin hF rfl rfl rfl rfl (fun _ => run_lss)) ?_
            clear hF; intro a hF
            refine wpList_nil ?_
            refine then_n ?_
            refine c_cond hF rfl (fun hc476 => ?_) (fun hc476 => ?_)
            · first | (replace hc476 := of_decide_eq_true hc476) | (replace hc476 := of_decide_eq_false (bnot_t hc476)) | (subst hc476) | (replace hc476 := bnot_t hc476; subst hc476) | (replace hc476 := bnot_t hc476) | skip
              refine wp_skip ?_
              refine then_n ?_
              refine c_seq ?_
              refine wp_block ?_
              refine c_seq ?_
              refine ha_startS hS [3] 11 (by kernel_rfl) ?_; clear hS; intro w hS
              have hSS := hS.sub [3] (by decide) rfl (by simp)
              refine ha_yl 0 hF rfl rfl rfl (by kernel_rfl) (by kernel_rfl) (by kernel_rfl) (by decide) (fun _ _ _ h => h) (wn_none rfl) (.inr hSS) (yl_move hF rfl rfl) ?_
              clear hF; intro a hF
              refine ha_yl 1 hF rfl rfl rfl (by kernel_rfl) (by kernel_rfl) (by kernel_rfl) (by decide) (fun _ _ _ h => h) (wn_none rfl) (.inr hSS) (yl_move hF rfl rfl) ?_
              clear hF; intro a hF
              have hlt_hx477 : q < (G398).length := by first | omega | (simp; done) | (simp; omega)
              obtain ⟨ad478, rfl⟩ := rd_some (hS.rdRo 3 rfl) hlt_hx477
              obtain ⟨x477, hx477⟩ := get_some hlt_hx477
              have hb_x477 := hRG398 x477 (List.mem_of_getElem? hx477)
              refine ha_yl 2 hF rfl rfl rfl (by kernel_rfl) (by kernel_rfl) (by kernel_rfl) (by decide) (fun _ _ _ h => h) (wn_none rfl) (.inr hSS) (yl_indexAddr hF rfl rfl rfl (fun _ => run_idx' sl26 sz36 (hS.rdRo 3 rfl) hlt_hx477)) ?_
              clear hF; intro a hF
              refine ha_yl 5 hF rfl rfl rfl (by kernel_rfl) (by kernel_rfl) (by kernel_rfl) (by decide) (fun _ _ _ h => h) (wn_none rfl) (.inr hSS) (yl_move hF rfl rfl) ?_
              clear hF; intro a hF
              refine ha_yl 6 hF rfl rfl rfl (by kernel_rfl) (by kernel_rfl) (by kernel_rfl) (by decide) (fun _ _ _ h => h) (wn_none rfl) (.inr hSS) (yl_move hF rfl rfl) ?_
              clear hF; intro a hF
              refine ha_yl 7 hF rfl rfl rfl (by kernel_rfl) (by kernel_rfl) (by kernel_rfl) (by decide) (fun _ _ _ h => h) (wn_none rfl) (.inr hSS) (yl_indexAddr hF rfl rfl rfl (fun _ => run_idx' sl26 sz36 (hS.rdRo 3 rfl) hlt_hx477)) ?_
              clear hF; intro a hF
              refine ha_ld 3 hF rfl rfl rfl (by kernel_rfl) (by kernel_rfl) (by kernel_rfl) (by decide) (by kernel_rfl) (by kernel_rfl) (fun _ _ _ h => h) (wn_none rfl) hSS (yl_loadEl (rs := [.int .i64 (x477.f0), .int .i64 (x477.f1), .int .i64 (x477.f2)]) hF rfl rfl ag36 sz36 rfl (fun _ h => rd_cells (enc := enc36) (Sat.rdRo h 0 rfl) enc36_len hx477)) ?_
              clear hF; intro a hF
              refine ha_ld 8 hF rfl rfl rfl (by kernel_rfl) (by kernel_rfl) (by kernel_rfl) (by decide) (by kernel_rfl) (by kernel_rfl) (fun _ _ _ h => h) (wn_none rfl) hSS (yl_loadEl (rs := [.int .i64 (x477.f0), .int .i64 (x477.f1), .int .i64 (x477.f2)]) hF rfl rfl ag36 sz36 rfl (fun _ h => rd_cells (enc := enc36) (Sat.rdRo h 0 rfl) enc36_len hx477)) ?_
              clear hF; intro a hF
              refine ha_one 4 (by kernel_rfl) rfl (wn_none rfl) (wp_call (vs := [_]) hF rfl rfl rfl rfl cf17 (excess_any x477 _ (by have h9 := hb_x477; unfold okR at h9; exact ⟨by omega, by omega⟩)) ?_)
              clear hF; rintro _ w ⟨rfl, hS1⟩ a hF
              replace hS := hS.callB hS1 rfl; clear hS1
              replace hSS := hS.sub [3] (by decide) rfl (by simp)
              refine ⟨.inr hSS, ?_⟩
              refine ha_one 9 (by kernel_rfl) rfl (wn_none rfl) (wp_call (vs := [_]) hF rfl rfl rfl rfl cf18 (excess2_any x477 _ (by have h9 := hb_x477; unfold okR at h9; exact ⟨by omega, by omega⟩)) ?_)
              clear hF; rintro _ w ⟨rfl, hS1⟩ a hF
              replace hS := hS.callB hS1 rfl; clear hS1
              replace hSS := hS.sub [3] (by decide) rfl (by simp)
              refine ⟨.inr hSS, ?_⟩
              refine ha_yl 10 hF rfl rfl rfl (by kernel_rfl) (by kernel_rfl) (by kernel_rfl) (by decide) (fun _ _ _ h => h) (wn_none rfl) (.inr hSS) (yl_bin hF rfl rfl rfl rfl (fun _ => run_neq)) ?_
              clear hF; intro a hF
              replace hF := fr_set (b' := false) hF (by simp)
              refine ha_done (by kernel_rfl) ?_ _
              refine then_n ?_
              refine c_cond_f hF rfl ?_
              refine wp_skip ?_
              refine inb_n ?_
              refine then_n ?_
              refine c_region ?_
              refine seq_yl hF (wn_none rfl) rfl rfl (yl_move hF rfl rfl) ?_
              clear hF; intro a hF
              refine seq_yl hF (wn_none rfl) rfl rfl (yl_bin hF rfl rfl rfl rfl (fun _ => run_inc (by omega))) ?_
              clear hF; intro a hF
              refine seq_yl hF (wn_none rfl) rfl rfl (yl_assign hF rfl rfl) ?_
              clear hF; intro a hF
              refine wpList_nil ?_
              refine then_n ?_
              exact ⟨_, (by omega), q + 1, rfl, (by omega), hF.to [2, 4, 5, 6, 7, 8, 9, 10, 11, 12, 13, 14, 18] rfl, (hS.sub [0, 1, 2, 3, 4, 5, 6, 7, 8] (by decide) (by first | rfl | simp) (by simp))⟩
            · first | (replace hc476 := of_decide_eq_false hc476) | (replace hc476 := of_decide_eq_true (bnot_f hc476)) | (subst hc476) | (replace hc476 := bnot_f hc476; subst hc476) | (replace hc476 := bnot_f hc476) | skip
              refine wp_exit ?_
              refine then_x ?_
              refine then_x ?_
              refine inb_x ?_
              refine then_n ?_
              refine c_seq ?_
              refine c_region ?_
              refine seq_yl hF (wn_none rfl) rfl rfl (yl_move hF rfl rfl) ?_
              clear hF; intro a hF
              refine seq_wp (wn_none rfl) (wp_call (vs := [_]) hF rfl rfl rfl rfl cf19 (check_any _ G398 _ (hS.rdRo 3 rfl) (by first | omega | (simp; done) | (simp; omega) | (rw [chF_len]; first | omega | (simp; done) | (simp; omega)) | (rw [unF_len]; first | omega | (simp; done) | (simp; omega)))) ?_)
              clear hF; rintro _ w ⟨rfl, hS1⟩ a hF
              replace hS := hS.callB hS1 rfl; clear hS1
              refine seq_yl hF (wn_none rfl) rfl rfl (yl_move hF rfl rfl) ?_
              clear hF; intro a hF
              refine seq_wp (wn_none rfl) (wp_call (vs := [_]) hF rfl rfl rfl rfl cf20 (check2_any _ G398 _ (hS.rdRo 3 rfl) (by first | omega | (simp; done) | (simp; omega) | (rw [chF_len]; first | omega | (simp; done) | (simp; omega)) | (rw [unF_len]; first | omega | (simp; done) | (simp; omega)))) ?_)
              clear hF; rintro _ w ⟨rfl, hS1⟩ a hF
              replace hS := hS.callB hS1 rfl; clear hS1
              refine seq_yl hF (wn_none rfl) rfl rfl (yl_bin hF rfl rfl rfl rfl (fun _ => run_eqb Try.underlying4)) ?_
              clear hF; intro a hF
              replace hF := fr_set (b' := true) hF (by simp)
              refine seq_yl hF (wn_none rfl) rfl rfl (yl_move hF rfl rfl) ?_
              clear hF; intro a hF
              refine seq_yl hF (wn_t hF rfl rfl rfl rfl) rfl rfl (yl_move hF rfl rfl) ?_
              clear hF; intro a hF
              refine seq_yl hF (wn_t hF rfl rfl rfl rfl) rfl rfl (yl_move hF rfl rfl) ?_
              clear hF; intro a hF
              refine seq_yl hF (wn_t hF rfl rfl rfl rfl) rfl rfl (yl_bin hF rfl rfl rfl rfl (fun _ => run_eql)) ?_
              clear hF; intro a hF
              replace hF := fr_set (b' := true) hF (by simp)
              refine seq_yl hF (wn_none rfl) rfl rfl (yl_pick (u := _) (v := undef) hF rfl rfl (fun _ => rfl) (fun h => by cases h)) ?_
              clear hF; intro a hF
              refine seq_yl hF (wn_none rfl) rfl rfl (yl_move hF rfl rfl) ?_
              clear hF; intro a hF
              refine seq_yl hF (wn_t hF rfl rfl rfl rfl) rfl rfl (yl_move hF rfl rfl) ?_
              clear hF; intro a hF
              refine seq_yl hF (wn_t hF rfl rfl rfl rfl) rfl rfl (yl_move hF rfl rfl) ?_
              clear hF; intro a hF
              refine seq_yl hF (wn_t hF rfl rfl rfl rfl) rfl rfl (yl_bin hF rfl rfl rfl rfl (fun _ => run_eql)) ?_
              clear hF; intro a hF
              replace hF := fr_set (b' := true) hF (by simp)
              refine seq_yl hF (wn_none rfl) rfl rfl (yl_pick (u := _) (v := undef) hF rfl rfl (fun _ => rfl) (fun h => by cases h)) ?_
              clear hF; intro a hF
              refine seq_yl hF (wn_none rfl) rfl rfl (yl_move hF rfl rfl) ?_
              clear hF; intro a hF
              refine seq_yl hF (wn_t hF rfl rfl rfl rfl) rfl rfl (yl_move hF rfl rfl) ?_
              clear hF; intro a hF
              refine seq_yl hF (wn_t hF rfl rfl rfl rfl) rfl rfl (yl_move hF rfl rfl) ?_
              clear hF; intro a hF
              refine seq_wp (wn_t hF rfl rfl rfl rfl) (wp_call (vs := [_, _]) hF rfl rfl rfl rfl cf21 (same_any _ _ (chF G398 (((r400) - (1 : Int))) (((r403) - (1 : Int)))).1 (chF G398 (((r400) - (1 : Int))) (((r403) - (1 : Int)))).1 _ (hS.rdRow 6 rfl) (hS.rdRo 5 rfl) (by first | omega | (simp; done) | (simp; omega) | (rw [chF_len]; first | omega | (simp; done) | (simp; omega)) | (rw [unF_len]; first | omega | (simp; done) | (simp; omega)))) ?_)
              clear hF; rintro _ w ⟨rfl, hS1⟩ a hF
              replace hS := hS.callB hS1 rfl; clear hS1
              replace hF := fr_set (b' := true) hF (by simp)
              refine seq_yl hF (wn_none rfl) rfl rfl (yl_pick (u := _) (v := undef) hF rfl rfl (fun _ => rfl) (fun h => by cases h)) ?_
              clear hF; intro a hF
              refine seq_yl hF (wn_none rfl) rfl rfl (yl_move hF rfl rfl) ?_
              clear hF; intro a hF
              refine seq_yl hF (wn_t hF rfl rfl rfl rfl) rfl rfl (yl_move hF rfl rfl) ?_
              clear hF; intro a hF
              refine seq_yl hF (wn_t hF rfl rfl rfl rfl) rfl rfl (yl_move hF rfl rfl) ?_
              clear hF; intro a hF
              refine seq_wp (wn_t hF rfl rfl rfl rfl) (wp_call (vs := [_, _]) hF rfl rfl rfl rfl cf21 (same_any _ _ (unF G398 (((r400) - (1 : Int))) (((r403) - (1 : Int)))).1 (unF G398 (((r400) - (1 : Int))) (((r403) - (1 : Int)))).1 _ (hS.rdRow 4 rfl) (hS.rdRo 2 rfl) (by first | omega | (simp; done) | (simp; omega) | (rw [chF_len]; first | omega | (simp; done) | (simp; omega)) | (rw [unF_len]; first | omega | (simp; done) | (simp; omega)))) ?_)
              clear hF; rintro _ w ⟨rfl, hS1⟩ a hF
              replace hS := hS.callB hS1 rfl; clear hS1
              replace hF := fr_set (b' := true) hF (by simp)
              refine seq_yl hF (wn_none rfl) rfl rfl (yl_pick (u := _) (v := undef) hF rfl rfl (fun _ => rfl) (fun h => by cases h)) ?_
              clear hF; intro a hF
              refine seq_yl hF (wn_none rfl) rfl rfl (yl_move hF rfl rfl) ?_
              clear hF; intro a hF
              refine seq_yl hF (wn_t hF rfl rfl rfl rfl) rfl rfl (yl_move hF rfl rfl) ?_
              clear hF; intro a hF
              refine seq_yl hF (wn_t hF rfl rfl rfl rfl) rfl rfl (yl_move hF rfl rfl) ?_
              clear hF; intro a hF
              refine seq_yl hF (wn_t hF rfl rfl rfl rfl) rfl rfl (yl_move hF rfl rfl) ?_
              clear hF; intro a hF
              refine seq_wp (wn_t hF rfl rfl rfl rfl) (wp_call (vs := [_, _, _]) hF rfl rfl rfl rfl cf22 (over_any _ G398 (((r400) - (1 : Int))) (((r403) - (1 : Int))) _ (hS.rdRo 3 rfl) (by first | omega | (simp; done) | (simp; omega) | (rw [chF_len]; first | omega | (simp; done) | (simp; omega)) | (rw [unF_len]; first | omega | (simp; done) | (simp; omega)))) ?_)
              clear hF; rintro _ w ⟨rfl, hS1⟩ a hF
              replace hS := hS.callB hS1 rfl; clear hS1
              refine seq_yl hF (wn_t hF rfl rfl rfl rfl) rfl rfl (yl_move hF rfl rfl) ?_
              clear hF; intro a hF
              refine seq_yl hF (wn_t hF rfl rfl rfl rfl) rfl rfl (yl_move hF rfl rfl) ?_
              clear hF; intro a hF
              refine seq_yl hF (wn_t hF rfl rfl rfl rfl) rfl rfl (yl_move hF rfl rfl) ?_
              clear hF; intro a hF
              refine seq_wp (wn_t hF rfl rfl rfl rfl) (wp_call (vs := [_, _, _]) hF rfl rfl rfl rfl cf23 (over2_any _ G398 (((r400) - (1 : Int))) (((r403) - (1 : Int))) _ (hS.rdRo 3 rfl) (by first | omega | (simp; done) | (simp; omega) | (rw [chF_len]; first | omega | (simp; done) | (simp; omega)) | (rw [unF_len]; first | omega | (simp; done) | (simp; omega)))) ?_)
              clear hF; rintro _ w ⟨rfl, hS1⟩ a hF
              replace hS := hS.callB hS1 rfl; clear hS1
              refine seq_yl hF (wn_t hF rfl rfl rfl rfl) rfl rfl (yl_bin hF rfl rfl rfl rfl (fun _ => run_eql)) ?_
              clear hF; intro a hF
              replace hF := fr_set (b' := true) hF (by simp)
              refine seq_yl hF (wn_none rfl) rfl rfl (yl_pick (u := _) (v := undef) hF rfl rfl (fun _ => rfl) (fun h => by cases h)) ?_
              clear hF; intro a hF
              refine seq_yl hF (wn_none rfl) rfl rfl (yl_move hF rfl rfl) ?_
              clear hF; intro a hF
              refine seq_wp (wn_t hF rfl rfl rfl rfl) (wp_call (vs := []) hF rfl rfl rfl rfl cf24 (awake_any _) ?_)
              clear hF; rintro _ w ⟨rfl, hS1⟩ a hF
              replace hS := hS.callB hS1 rfl; clear hS1
              refine seq_yl hF (wn_none rfl) rfl rfl (yl_pick (u := _) (v := undef) hF rfl rfl (fun _ => rfl) (fun h => by cases h)) ?_
              clear hF; intro a hF
              refine seq_yl hF (wn_none rfl) rfl rfl (yl_assign hF rfl rfl) ?_
              clear hF; intro a hF
              refine wpList_nil ?_
              refine then_n ?_
              refine wp_ret ?_
              refine ret_t hF rfl rfl ?_
              exact ⟨_, rfl, rfl, (hS.sub [] (by decide) (by first | rfl | simp) (by simp))⟩

end Go.Proofs.Ytiifpgkdgnoafaa

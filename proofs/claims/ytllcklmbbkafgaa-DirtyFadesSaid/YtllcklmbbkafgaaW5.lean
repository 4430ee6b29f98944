/- walks, printed by wip/gen -/
import Derived.Test.YtllcklmbbkafgaaW4
namespace Go.Proofs.Ytllcklmbbkafgaa
open Go.RowKit
set_option linter.unusedVariables false
set_option linter.unusedSimpArgs false

theorem fades_any (pages period : Int) (w0 : World) :
    Fn Try.prog 5 #[.int .i64 pages, .int .i64 period] w0 (fun v w' => v = .bool true ∧ Sat w0 w' []) := by
  refine c_enter (N := 84) (l := [_, _]) Try.func5 rfl rfl (fun a w hF hS => ?_)
  refine c_seq ?_
  refine c_region ?_
  refine seq_yl hF (wn_none rfl) rfl rfl (yl_assign hF rfl rfl) ?_
  clear hF; intro a hF
  refine wpList_nil ?_
  refine then_n ?_
  refine c_seq ?_
  refine c_region ?_
  refine seq_yl hF (wn_none rfl) rfl rfl (yl_move hF rfl rfl) ?_
  clear hF; intro a hF
  have hr117 := rnd_bounds (pages) (65 : Int) (by omega)
  refine seq_wp (wn_none rfl) (wp_call (vs := [_, _]) hF rfl rfl rfl rfl cf23 (cut_any (pages) (65 : Int) _ (by omega) (by omega)) ?_)
  clear hF; rintro _ w ⟨rfl, hS1⟩ a hF
  replace hS := hS.callB hS1 rfl; clear hS1
  refine seq_yl hF (wn_none rfl) rfl rfl (yl_move hF rfl rfl) ?_
  clear hF; intro a hF
  have hr118 := rnd_bounds (period) (40 : Int) (by omega)
  refine seq_wp (wn_none rfl) (wp_call (vs := [_, _]) hF rfl rfl rfl rfl cf23 (cut_any (period) (40 : Int) _ (by omega) (by omega)) ?_)
  clear hF; rintro _ w ⟨rfl, hS1⟩ a hF
  replace hS := hS.callB hS1 rfl; clear hS1
  refine seq_yl hF (wn_none rfl) rfl rfl (yl_bin hF rfl rfl rfl rfl (fun _ => run_add (by refine ⟨?_, ?_⟩ <;> omega))) ?_
  clear hF; intro a hF
  refine seq_yl hF (wn_none rfl) rfl rfl (yl_assign hF rfl rfl) ?_
  clear hF; intro a hF
  refine seq_yl hF (wn_none rfl) rfl rfl (yl_assign hF rfl rfl) ?_
  clear hF; intro a hF
  refine wpList_nil ?_
  refine then_n ?_
  refine c_seq ?_
  refine c_region ?_
  refine seq_yl hF (wn_none rfl) rfl rfl (yl_move hF rfl rfl) ?_
  clear hF; intro a hF
  refine seq_wp (wn_none rfl) (wp_call (vs := [_, _]) hF rfl rfl rfl rfl cf9 (new_ok (2 : Int) (((1 : Int) + ((rnd (period) (40 : Int))))) _ (by omega)) ?_)
  clear hF; rintro _ w ⟨v119, rfl, hS1⟩ a hF
  replace hS := hS.callB hS1 rfl; clear hS1
  obtain ⟨Av119, cv119, rfl⟩ := hS.form 0 rfl
  refine seq_yl hF (wn_none rfl) rfl rfl (yl_move hF rfl rfl) ?_
  clear hF; intro a hF
  refine seq_yl hF (wn_none rfl) rfl rfl (yl_extract hF rfl rfl rfl) ?_
  clear hF; intro a hF
  refine seq_yl hF (wn_none rfl) rfl rfl (yl_extract hF rfl rfl rfl) ?_
  clear hF; intro a hF
  refine seq_wp (wn_none rfl) (wp_alloc (cs := #[_, _, _]) hF hS rfl rfl rfl zr27 rfl ?_)
  clear hF hS; intro a w g120 hF hS
  refine seq_wp (wn_none rfl) (wp_store (cs' := #[_, _, _]) hF hS rfl rfl rfl rfl 0 rfl sz27 (by simp [Value.cells, Value.oneCell']) (by simp [Value.cells]) rfl ?_)
  clear hF hS; intro a w hF hS
  refine seq_yl hF (wn_none rfl) rfl rfl (yl_assign hF rfl rfl) ?_
  clear hF; intro a hF
  refine wpList_nil ?_
  refine then_n ?_
  refine c_seq ?_
  refine c_region ?_
  refine seq_yl hF (wn_none rfl) rfl rfl (yl_loadK (rs := [_, _, _]) (fun _ h => h ▸ hS) hF rfl rfl 0 rfl ag27 sz27 rfl rfl) ?_
  clear hF; intro a hF
  refine seq_yl hF (wn_none rfl) rfl rfl (yl_move hF rfl rfl) ?_
  clear hF; intro a hF
  refine seq_wp (wn_none rfl) (wp_call (vs := [_, _, _]) hF rfl rfl rfl rfl cf11 (comp_any _ (List.replicate ((2 : Int)).toNat (0 : Int)) ((((1 : Int) + ((rnd (period) (40 : Int)))))) ((((1 : Int) + ((rnd (period) (40 : Int)))))) (1 : Int) ((rnd (pages) (65 : Int))) _ (hS.rdRow 1 rfl) (by first | omega | (simp; done) | (simp; omega) | (rw [stF_len]; first | omega | (simp; done) | (simp; omega)))) ?_)
  clear hF; rintro _ w ⟨v121, rfl, hS1⟩ a hF
  replace hS := hS.callB hS1 rfl; clear hS1
  obtain ⟨Av121, cv121, rfl⟩ := hS.form 0 rfl
  refine seq_yl hF (wn_none rfl) rfl rfl (yl_move hF rfl rfl) ?_
  clear hF; intro a hF
  refine seq_yl hF (wn_none rfl) rfl rfl (yl_extract hF rfl rfl rfl) ?_
  clear hF; intro a hF
  refine seq_yl hF (wn_none rfl) rfl rfl (yl_extract hF rfl rfl rfl) ?_
  clear hF; intro a hF
  refine seq_wp (wn_none rfl) (wp_alloc (cs := #[_, _, _]) hF hS rfl rfl rfl zr27 rfl ?_)
  clear hF hS; intro a w g122 hF hS
  refine seq_wp (wn_none rfl) (wp_store (cs' := #[_, _, _]) hF hS rfl rfl rfl rfl 0 rfl sz27 (by simp [Value.cells, Value.oneCell']) (by simp [Value.cells]) rfl ?_)
  clear hF hS; intro a w hF hS
  refine seq_yl hF (wn_none rfl) rfl rfl (yl_assign hF rfl rfl) ?_
  clear hF; intro a hF
  refine wpList_nil ?_
  refine then_n ?_
  refine c_seq ?_
  refine c_seq ?_
  refine c_region ?_
  refine seq_yl hF (wn_none rfl) rfl rfl (yl_move hF rfl rfl) ?_
  clear hF; intro a hF
  refine seq_yl hF (wn_none rfl) rfl rfl (yl_bin hF rfl rfl rfl rfl (fun _ => run_neq)) ?_
  clear hF; intro a hF
  replace hF := fr_set (b' := false) hF (by decide)
  refine seq_yl hF (wn_none rfl) rfl rfl (yl_move hF rfl rfl) ?_
  clear hF; intro a hF
  refine seq_yl hF (wn_t hF rfl rfl rfl rfl) rfl rfl (yl_move hF rfl rfl) ?_
  clear hF; intro a hF
  refine seq_yl hF (wn_t hF rfl rfl rfl rfl) rfl rfl (yl_bin hF rfl rfl rfl rfl (fun _ => run_neq)) ?_
  clear hF; intro a hF
  replace hF := fr_set (b' := false) hF (by rw [(fades_ok (by omega) (by omega)).1]; rfl)
  refine seq_yl hF (wn_none rfl) rfl rfl (yl_pick (u := _) (v := undef) hF rfl rfl (fun h => by cases h) (fun _ => rfl)) ?_
  clear hF; intro a hF
  refine wpList_nil ?_
  refine then_n ?_
  refine c_cond_f hF rfl ?_
  refine wp_skip ?_
  refine then_n ?_
  refine c_seq ?_
  refine c_region ?_
  refine seq_yl hF (wn_none rfl) rfl rfl (yl_move hF rfl rfl) ?_
  clear hF; intro a hF
  refine seq_yl hF (wn_none rfl) rfl rfl (yl_assign hF rfl rfl) ?_
  clear hF; intro a hF
  refine seq_yl hF (wn_none rfl) rfl rfl (yl_assign hF rfl rfl) ?_
  clear hF; intro a hF
  refine wpList_nil ?_
  refine then_n ?_
  refine c_seq ?_
  refine c_seq ?_
  refine c_region ?_
  refine seq_yl hF (wn_none rfl) rfl rfl (yl_assign hF rfl rfl) ?_
  clear hF; intro a hF
  refine wpList_nil ?_
  refine then_n ?_
  refine wp_block ?_
  have hok := fades_ok (K := (1 + (rnd period 40))) (n := (rnd pages 65)) (by omega) (by omega)
  refine c_loop (fun m a w => ∃ (i : Nat) (ev q : Int) (AvE : Option Addr) (cvE : Nat), m = (rnd pages 65).toNat - i ∧ ((i : Int) ≤ (rnd pages 65) ∧ crun 1 (1 + (rnd period 40)) i ([0, 0], (1 + (rnd period 40))) = ([0, ev], q) ∧ 0 ≤ ev ∧ ev ≤ i ∧ 1 ≤ q ∧ q ≤ (1 + (rnd period 40))) ∧ Fr 84 a [(5, .int .i64 ((rnd (pages) (65 : Int)))), (6, .int .i64 (((1 : Int) + ((rnd (period) (40 : Int)))))), (7, .pointer (some ⟨g120, 0, none⟩)), (9, .pointer (some ⟨g122, 0, none⟩)), (11, .int .i64 (ev)), (12, .int .i64 (q)), (13, .int .i64 ((i : Nat) : Int))] ∧ Sat w0 w [.box g120 27 #[.slice AvE ([0, ev]).length cvE, .int .i64 ((1 + (rnd period 40))), .int .i64 (q)], .row 3 1 (.slice AvE ([0, ev]).length cvE) ([0, ev]).length (cells encI ([0, ev])), .box g122 27 #[.slice Av121 ((stF (List.replicate ((2 : Int)).toNat (0 : Int)) ((((1 : Int) + ((rnd (period) (40 : Int)))))) ((((1 : Int) + ((rnd (period) (40 : Int)))))) (1 : Int) ((rnd (pages) (65 : Int)))).1).length cv121, .int .i64 (((((1 : Int) + ((rnd (period) (40 : Int))))))), .int .i64 ((stF (List.replicate ((2 : Int)).toNat (0 : Int)) ((((1 : Int) + ((rnd (period) (40 : Int)))))) ((((1 : Int) + ((rnd (period) (40 : Int)))))) (1 : Int) ((rnd (pages) (65 : Int)))).2)], .row 3 1 (.slice Av121 ((stF (List.replicate ((2 : Int)).toNat (0 : Int)) ((((1 : Int) + ((rnd (period) (40 : Int)))))) ((((1 : Int) + ((rnd (period) (40 : Int)))))) (1 : Int) ((rnd (pages) (65 : Int)))).1).length cv121) ((stF (List.replicate ((2 : Int)).toNat (0 : Int)) ((((1 : Int) + ((rnd (period) (40 : Int)))))) ((((1 : Int) + ((rnd (period) (40 : Int)))))) (1 : Int) ((rnd (pages) (65 : Int)))).1).length (cells encI ((stF (List.replicate ((2 : Int)).toNat (0 : Int)) ((((1 : Int) + ((rnd (period) (40 : Int)))))) ((((1 : Int) + ((rnd (period) (40 : Int)))))) (1 : Int) ((rnd (pages) (65 : Int)))).1))]) ((rnd pages 65).toNat - 0) ?_ ?_
  · exact ⟨0, 0, _, _, _, rfl, ⟨by omega, rfl, by omega, by omega, by omega, by omega⟩, hF.to [5, 6, 7, 9, 11, 12, 13] rfl, (hS.sub [2, 3, 0, 1] (by decide) (by first | rfl | simp) (by simp))⟩
  · clear hF hS a w; rintro m a w ⟨i, ev, q, AvE, cvE, rfl, hinv, hF, hS⟩
    obtain ⟨hi1, hi2, hi3, hi4, hi5, hi6⟩ := hinv
    have hinv := And.intro hi1 (And.intro hi2 hi3)
    refine c_seq ?_
    refine c_seq ?_
    refine c_region ?_
    refine seq_yl hF (wn_none rfl) rfl rfl (yl_move hF rfl rfl) ?_
    clear hF; intro a hF
    refine seq_yl hF (wn_none rfl) rfl rfl (yl_move hF rfl rfl) ?_
    clear hF; intro a hF
    refine seq_yl hF (wn_none rfl) rfl rfl (yl_bin hF rfl rfl rfl rfl (fun _ => run_lss)) ?_
    clear hF; intro a hF
    refine wpList_nil ?_
    refine then_n ?_
    refine c_cond hF rfl (fun hc123 => ?_) (fun hc123 => ?_)
    · first | (replace hc123 := of_decide_eq_true hc123) | (replace hc123 := of_decide_eq_false (bnot_t hc123)) | (subst hc123) | (replace hc123 := bnot_t hc123; subst hc123) | (replace hc123 := bnot_t hc123) | skip
      refine wp_skip ?_
      refine then_n ?_
      refine c_seq ?_
      refine wp_block ?_
      refine c_seq ?_
      refine c_region ?_
      refine seq_yl hF (wn_none rfl) rfl rfl (yl_loadK (rs := [_, _, _]) (fun _ h => h ▸ hS) hF rfl rfl 0 rfl ag27 sz27 rfl rfl) ?_
      clear hF; intro a hF
      refine seq_wp (wn_none rfl) (wp_call (vs := [_, _, _]) hF rfl rfl rfl rfl cf11 (comp_any _ [0, ev] ((1 + (rnd period 40))) (q) (1 : Int) (1 : Int) _ (hS.rdRow 1 rfl) (by first | omega | (simp; done) | (simp; omega) | (rw [stF_len]; first | omega | (simp; done) | (simp; omega)))) ?_)
      clear hF; rintro _ w ⟨v124, rfl, hS1⟩ a hF
      replace hS := hS.callB hS1 rfl; clear hS1
      obtain ⟨Av124, cv124, rfl⟩ := hS.form 0 rfl
      refine seq_yl hF (wn_none rfl) rfl rfl (yl_move hF rfl rfl) ?_
      clear hF; intro a hF
      refine seq_yl hF (wn_none rfl) rfl rfl (yl_extract hF rfl rfl rfl) ?_
      clear hF; intro a hF
      refine seq_yl hF (wn_none rfl) rfl rfl (yl_extract hF rfl rfl rfl) ?_
      clear hF; intro a hF
      refine seq_wp (wn_none rfl) (wp_store (cs' := #[_, _, _]) hF hS rfl rfl rfl rfl 1 rfl sz27 (by simp [Value.cells, Value.oneCell']) (by simp [Value.cells]) rfl ?_)
      clear hF hS; intro a w hF hS
      refine seq_yl hF (wn_none rfl) rfl rfl (yl_assign hF rfl rfl) ?_
      clear hF; intro a hF
      refine wpList_nil ?_
      refine then_n ?_
      refine c_seq ?_
      refine c_region ?_
      refine seq_yl hF (wn_none rfl) rfl rfl (yl_move hF rfl rfl) ?_
      clear hF; intro a hF
      refine seq_yl hF (wn_none rfl) rfl rfl (yl_bin hF rfl rfl rfl rfl (fun _ => run_add (by refine ⟨?_, ?_⟩ <;> omega))) ?_
      clear hF; intro a hF
      refine seq_yl hF (wn_none rfl) rfl rfl (yl_move hF rfl rfl) ?_
      clear hF; intro a hF
      refine seq_yl hF (wn_none rfl) rfl rfl (yl_bin hF rfl rfl rfl rfl (fun _ => run_sub (by refine ⟨?_, ?_⟩ <;> omega))) ?_
      clear hF; intro a hF
      refine seq_yl hF (wn_none rfl) rfl rfl (yl_assign hF rfl rfl) ?_
      clear hF; intro a hF
      refine seq_yl hF (wn_none rfl) rfl rfl (yl_assign hF rfl rfl) ?_
      clear hF; intro a hF
      refine wpList_nil ?_
      refine then_n ?_
      refine c_seq ?_
      refine c_seq ?_
      refine c_region ?_
      refine seq_yl hF (wn_none rfl) rfl rfl (yl_move hF rfl rfl) ?_
      clear hF; intro a hF
      refine seq_yl hF (wn_none rfl) rfl rfl (yl_bin hF rfl rfl rfl rfl (fun _ => run_eql)) ?_
      clear hF; intro a hF
      refine wpList_nil ?_
      refine then_n ?_
      refine c_cond hF rfl (fun hc125 => ?_) (fun hc125 => ?_)
      · first | (replace hc125 := of_decide_eq_true hc125) | (replace hc125 := of_decide_eq_false (bnot_t hc125)) | (subst hc125) | (replace hc125 := bnot_t hc125; subst hc125) | (replace hc125 := bnot_t hc125) | skip
        refine c_region ?_
        refine seq_yl hF (wn_none rfl) rfl rfl (yl_move hF rfl rfl) ?_
        clear hF; intro a hF
        refine seq_yl hF (wn_none rfl) rfl rfl (yl_bin hF rfl rfl rfl rfl (fun _ => run_quoN (by omega) (by omega) (by omega))) ?_
        clear hF; intro a hF
        refine seq_yl hF (wn_none rfl) rfl rfl (yl_move hF rfl rfl) ?_
        clear hF; intro a hF
        refine seq_yl hF (wn_none rfl) rfl rfl (yl_assign hF rfl rfl) ?_
        clear hF; intro a hF
        refine seq_yl hF (wn_none rfl) rfl rfl (yl_assign hF rfl rfl) ?_
        clear hF; intro a hF
        refine wpList_nil ?_
        refine then_n ?_
        refine c_seq ?_
        refine c_region ?_
        obtain ⟨hf0, hf1, hf2⟩ := fade_all (K := (1 + (rnd period 40))) (ev := ev) (q := q) (by omega) (by omega) (by omega)
        first | rw [if_pos (by omega)] at hf2 | rw [if_neg (by omega)] at hf2
        have hf := hf1.trans hf2
        refine seq_yl hF (wn_none rfl) rfl rfl (yl_move hF rfl rfl) ?_
        clear hF; intro a hF
        refine seq_yl hF (wn_none rfl) rfl rfl (yl_bin hF rfl rfl rfl rfl (fun _ => run_neq)) ?_
        clear hF; intro a hF
        replace hF := fr_set (b' := false) hF (by rw [hf0]; rfl)
        refine seq_yl hF (wn_none rfl) rfl rfl (yl_move hF rfl rfl) ?_
        clear hF; intro a hF
        refine seq_yl hF (wn_t hF rfl rfl rfl rfl) rfl rfl (yl_fieldAddr hF rfl rfl (fun w => by kernel_rfl : ∀ w, (Instr.fieldAt 27 (.pointer (some ⟨g120, 0, none⟩)) 0).run Try.prog w = .ok (.pointer (some ⟨g120, 0, none⟩)) w)) ?_
        clear hF; intro a hF
        refine seq_yl hF (wn_t hF rfl rfl rfl rfl) rfl rfl (yl_load (fun _ h => h ▸ hS) hF rfl rfl 1 rfl ag22 rfl) ?_
        clear hF; intro a hF
        refine seq_yl hF (wn_t hF rfl rfl rfl rfl) rfl rfl (yl_len hF rfl rfl (fun _ => run_lenRd sl22 (hS.rdRow 0 rfl))) ?_
        clear hF; intro a hF
        refine seq_yl hF (wn_t hF rfl rfl rfl rfl) rfl rfl (yl_bin hF rfl rfl rfl rfl (fun _ => run_neq)) ?_
        clear hF; intro a hF
        replace hF := fr_set (b' := false) hF (by rw [stF_len]; rfl)
        refine seq_yl hF (wn_none rfl) rfl rfl (yl_pick (u := _) (v := undef) hF rfl rfl (fun h => by cases h) (fun _ => rfl)) ?_
        clear hF; intro a hF
        refine seq_yl hF (wn_none rfl) rfl rfl (yl_move hF rfl rfl) ?_
        clear hF; intro a hF
        refine seq_yl hF (wn_t hF rfl rfl rfl rfl) rfl rfl (yl_fieldAddr hF rfl rfl (fun w => by kernel_rfl : ∀ w, (Instr.fieldAt 27 (.pointer (some ⟨g120, 0, none⟩)) 0).run Try.prog w = .ok (.pointer (some ⟨g120, 0, none⟩)) w)) ?_
        clear hF; intro a hF
        refine seq_yl hF (wn_t hF rfl rfl rfl rfl) rfl rfl (yl_load (fun _ h => h ▸ hS) hF rfl rfl 1 rfl ag22 rfl) ?_
        clear hF; intro a hF
        have hlt_hx126 : 1 < ((stF [0, ev] ((1 + (rnd period 40))) (q) (1 : Int) (1 : Int)).1).length := by first | omega | (rw [stF_len]; first | omega | (simp; done) | (simp; omega))
        obtain ⟨ad127, rfl⟩ := rd_some (hS.rdRow 0 rfl) hlt_hx126
        obtain ⟨x126, hx126⟩ := get_some hlt_hx126
        refine seq_yl hF (wn_t hF rfl rfl rfl rfl) rfl rfl (yl_indexAddr hF rfl rfl rfl (fun _ => run_idx' (k := 1) sl22 sz3 (hS.rdRow 0 rfl) hlt_hx126)) ?_
        clear hF; intro a hF
        refine seq_yl hF (wn_t hF rfl rfl rfl rfl) rfl rfl (yl_loadAt hF rfl rfl ag3 (fun _ h => rd_cell0 (by subst h; exact hS.rdRow 0 rfl) encI_len hx126 rfl rfl)) ?_
        clear hF; intro a hF
        refine seq_yl hF (wn_t hF rfl rfl rfl rfl) rfl rfl (yl_move hF rfl rfl) ?_
        clear hF; intro a hF
        refine seq_yl hF (wn_t hF rfl rfl rfl rfl) rfl rfl (yl_bin hF rfl rfl rfl rfl (fun _ => run_neq)) ?_
        clear hF; intro a hF
        replace hF := fr_set (b' := false) hF (by have h9 := hx126; rw [hf] at h9; simp at h9; simp; omega)
        refine seq_yl hF (wn_none rfl) rfl rfl (yl_pick (u := _) (v := undef) hF rfl rfl (fun h => by cases h) (fun _ => rfl)) ?_
        clear hF; intro a hF
        refine seq_yl hF (wn_none rfl) rfl rfl (yl_move hF rfl rfl) ?_
        clear hF; intro a hF
        refine seq_yl hF (wn_t hF rfl rfl rfl rfl) rfl rfl (yl_fieldAddr hF rfl rfl (fun w => by kernel_rfl : ∀ w, (Instr.fieldAt 27 (.pointer (some ⟨g120, 0, none⟩)) 2).run Try.prog w = .ok (.pointer (some ⟨g120, 2, none⟩)) w)) ?_
        clear hF; intro a hF
        refine seq_yl hF (wn_t hF rfl rfl rfl rfl) rfl rfl (yl_load (fun _ h => h ▸ hS) hF rfl rfl 1 rfl ag3 rfl) ?_
        clear hF; intro a hF
        refine seq_yl hF (wn_t hF rfl rfl rfl rfl) rfl rfl (yl_move hF rfl rfl) ?_
        clear hF; intro a hF
        refine seq_yl hF (wn_t hF rfl rfl rfl rfl) rfl rfl (yl_bin hF rfl rfl rfl rfl (fun _ => run_neq)) ?_
        clear hF; intro a hF
        replace hF := fr_set (b' := false) hF (by rw [hf]; simp)
        refine seq_yl hF (wn_none rfl) rfl rfl (yl_pick (u := _) (v := undef) hF rfl rfl (fun h => by cases h) (fun _ => rfl)) ?_
        clear hF; intro a hF
        refine wpList_nil ?_
        refine then_n ?_
        refine c_cond_f hF rfl ?_
        refine wp_skip ?_
        refine inb_n ?_
        refine then_n ?_
        refine c_region ?_
        refine seq_yl hF (wn_none rfl) rfl rfl (yl_move hF rfl rfl) ?_
        clear hF; intro a hF
        refine seq_yl hF (wn_none rfl) rfl rfl (yl_bin hF rfl rfl rfl rfl (fun _ => run_inc (by omega))) ?_
        clear hF; intro a hF
        refine seq_yl hF (wn_none rfl) rfl rfl (yl_assign hF rfl rfl) ?_
        clear hF; intro a hF
        refine wpList_nil ?_
        refine then_n ?_
        rw [hf] at hS
        exact ⟨_, (by omega), i + 1, (((((ev) + (1 : Int))) / (2 : Int))), (((1 : Int) + ((rnd (period) (40 : Int))))), _, _, rfl, ⟨by omega, by rw [crun_succ hinv.2.1, hf2], by omega, by omega, by omega, by omega⟩, hF.to [5, 6, 7, 9, 11, 12, 13] rfl, (hS.sub [1, 0, 3, 4] (by decide) (by first | rfl | simp) (by simp))⟩
      · first | (replace hc125 := of_decide_eq_false hc125) | (replace hc125 := of_decide_eq_true (bnot_f hc125)) | (subst hc125) | (replace hc125 := bnot_f hc125; subst hc125) | (replace hc125 := bnot_f hc125) | skip
        refine wp_skip ?_
        refine then_n ?_
        refine c_seq ?_
        refine c_region ?_
        obtain ⟨hf0, hf1, hf2⟩ := fade_all (K := (1 + (rnd period 40))) (ev := ev) (q := q) (by omega) (by omega) (by omega)
        first | rw [if_pos (by omega)] at hf2 | rw [if_neg (by omega)] at hf2
        have hf := hf1.trans hf2
        refine seq_yl hF (wn_none rfl) rfl rfl (yl_move hF rfl rfl) ?_
        clear hF; intro a hF
        refine seq_yl hF (wn_none rfl) rfl rfl (yl_bin hF rfl rfl rfl rfl (fun _ => run_neq)) ?_
        clear hF; intro a hF
        replace hF := fr_set (b' := false) hF (by rw [hf0]; rfl)
        refine seq_yl hF (wn_none rfl) rfl rfl (yl_move hF rfl rfl) ?_
        clear hF; intro a hF
        refine seq_yl hF (wn_t hF rfl rfl rfl rfl) rfl rfl (yl_fieldAddr hF rfl rfl (fun w => by kernel_rfl : ∀ w, (Instr.fieldAt 27 (.pointer (some ⟨g120, 0, none⟩)) 0).run Try.prog w = .ok (.pointer (some ⟨g120, 0, none⟩)) w)) ?_
        clear hF; intro a hF
        refine seq_yl hF (wn_t hF rfl rfl rfl rfl) rfl rfl (yl_load (fun _ h => h ▸ hS) hF rfl rfl 1 rfl ag22 rfl) ?_
        clear hF; intro a hF
        refine seq_yl hF (wn_t hF rfl rfl rfl rfl) rfl rfl (yl_len hF rfl rfl (fun _ => run_lenRd sl22 (hS.rdRow 0 rfl))) ?_
        clear hF; intro a hF
        refine seq_yl hF (wn_t hF rfl rfl rfl rfl) rfl rfl (yl_bin hF rfl rfl rfl rfl (fun _ => run_neq)) ?_
        clear hF; intro a hF
        replace hF := fr_set (b' := false) hF (by rw [stF_len]; rfl)
        refine seq_yl hF (wn_none rfl) rfl rfl (yl_pick (u := _) (v := undef) hF rfl rfl (fun h => by cases h) (fun _ => rfl)) ?_
        clear hF; intro a hF
        refine seq_yl hF (wn_none rfl) rfl rfl (yl_move hF rfl rfl) ?_
        clear hF; intro a hF
        refine seq_yl hF (wn_t hF rfl rfl rfl rfl) rfl rfl (yl_fieldAddr hF rfl rfl (fun w => by kernel_rfl : ∀ w, (Instr.fieldAt 27 (.pointer (some ⟨g120, 0, none⟩)) 0).run Try.prog w = .ok (.pointer (some ⟨g120, 0, none⟩)) w)) ?_
        clear hF; intro a hF
        refine seq_yl hF (wn_t hF rfl rfl rfl rfl) rfl rfl (yl_load (fun _ h => h ▸ hS) hF rfl rfl 1 rfl ag22 rfl) ?_
        clear hF; intro a hF
        have hlt_hx128 : 1 < ((stF [0, ev] ((1 + (rnd period 40))) (q) (1 : Int) (1 : Int)).1).length := by first | omega | (rw [stF_len]; first | omega | (simp; done) | (simp; omega))
        obtain ⟨ad129, rfl⟩ := rd_some (hS.rdRow 0 rfl) hlt_hx128
        obtain ⟨x128, hx128⟩ := get_some hlt_hx128
        refine seq_yl hF (wn_t hF rfl rfl rfl rfl) rfl rfl (yl_indexAddr hF rfl rfl rfl (fun _ => run_idx' (k := 1) sl22 sz3 (hS.rdRow 0 rfl) hlt_hx128)) ?_
        clear hF; intro a hF
        refine seq_yl hF (wn_t hF rfl rfl rfl rfl) rfl rfl (yl_loadAt hF rfl rfl ag3 (fun _ h => rd_cell0 (by subst h; exact hS.rdRow 0 rfl) encI_len hx128 rfl rfl)) ?_
        clear hF; intro a hF
        refine seq_yl hF (wn_t hF rfl rfl rfl rfl) rfl rfl (yl_move hF rfl rfl) ?_
        clear hF; intro a hF
        refine seq_yl hF (wn_t hF rfl rfl rfl rfl) rfl rfl (yl_bin hF rfl rfl rfl rfl (fun _ => run_neq)) ?_
        clear hF; intro a hF
        replace hF := fr_set (b' := false) hF (by have h9 := hx128; rw [hf] at h9; simp at h9; simp; omega)
        refine seq_yl hF (wn_none rfl) rfl rfl (yl_pick (u := _) (v := undef) hF rfl rfl (fun h => by cases h) (fun _ => rfl)) ?_
        clear hF; intro a hF
        refine seq_yl hF (wn_none rfl) rfl rfl (yl_move hF rfl rfl) ?_
        clear hF; intro a hF
        refine seq_yl hF (wn_t hF rfl rfl rfl rfl) rfl rfl (yl_fieldAddr hF rfl rfl (fun w => by kernel_rfl : ∀ w, (Instr.fieldAt 27 (.pointer (some ⟨g120, 0, none⟩)) 2).run Try.prog w = .ok (.pointer (some ⟨g120, 2, none⟩)) w)) ?_
        clear hF; intro a hF
        refine seq_yl hF (wn_t hF rfl rfl rfl rfl) rfl rfl (yl_load (fun _ h => h ▸ hS) hF rfl rfl 1 rfl ag3 rfl) ?_
        clear hF; intro a hF
        refine seq_yl hF (wn_t hF rfl rfl rfl rfl) rfl rfl (yl_move hF rfl rfl) ?_
        clear hF; intro a hF
        refine seq_yl hF (wn_t hF rfl rfl rfl rfl) rfl rfl (yl_bin hF rfl rfl rfl rfl (fun _ => run_neq)) ?_
        clear hF; intro a hF
        replace hF := fr_set (b' := false) hF (by rw [hf]; simp)
        refine seq_yl hF (wn_none rfl) rfl rfl (yl_pick (u := _) (v := undef) hF rfl rfl (fun h => by cases h) (fun _ => rfl)) ?_
        clear hF; intro a hF
        refine wpList_nil ?_
        refine then_n ?_
        refine c_cond_f hF rfl ?_
        refine wp_skip ?_
        refine inb_n ?_
        refine then_n ?_
        refine c_region ?_
        refine seq_yl hF (wn_none rfl) rfl rfl (yl_move hF rfl rfl) ?_
        clear hF; intro a hF
        refine seq_yl hF (wn_none rfl) rfl rfl (yl_bin hF rfl rfl rfl rfl (fun _ => run_inc (by omega))) ?_
        clear hF; intro a hF
        refine seq_yl hF (wn_none rfl) rfl rfl (yl_assign hF rfl rfl) ?_
        clear hF; intro a hF
        refine wpList_nil ?_
        refine then_n ?_
        rw [hf] at hS
        exact ⟨_, (by omega), i + 1, (((ev) + (1 : Int))), (((q) - (1 : Int))), _, _, rfl, ⟨by omega, by rw [crun_succ hinv.2.1, hf2], by omega, by omega, by omega, by omega⟩, hF.to [5, 6, 7, 9, 11, 12, 13] rfl, (hS.sub [1, 0, 3, 4] (by decide) (by first | rfl | simp) (by simp))⟩
    · first | (replace hc123 := of_decide_eq_false hc123) | (replace hc123 := of_decide_eq_true (bnot_f hc123)) | (subst hc123) | (replace hc123 := bnot_f hc123; subst hc123) | (replace hc123 := bnot_f hc123) | skip
      refine wp_exit ?_
      refine then_x ?_
      refine then_x ?_
      refine inb_x ?_
      refine then_n ?_
      refine c_seq ?_
      refine c_region ?_
      refine seq_yl hF (wn_none rfl) rfl rfl (yl_loadK (rs := [_, _, _]) (fun _ h => h ▸ hS) hF rfl rfl 0 rfl ag27 sz27 rfl rfl) ?_
      clear hF; intro a hF
      refine seq_yl hF (wn_none rfl) rfl rfl (yl_loadK (rs := [_, _, _]) (fun _ h => h ▸ hS) hF rfl rfl 2 rfl ag27 sz27 rfl rfl) ?_
      clear hF; intro a hF
      refine seq_wp (wn_none rfl) (wp_call (vs := [_, _]) hF rfl rfl rfl rfl cf13 (same_any _ _ [0, ev] (stF (List.replicate ((2 : Int)).toNat (0 : Int)) ((((1 : Int) + ((rnd (period) (40 : Int)))))) ((((1 : Int) + ((rnd (period) (40 : Int)))))) (1 : Int) ((rnd (pages) (65 : Int)))).1 ((1 + (rnd period 40))) (q) (((((1 : Int) + ((rnd (period) (40 : Int))))))) ((stF (List.replicate ((2 : Int)).toNat (0 : Int)) ((((1 : Int) + ((rnd (period) (40 : Int)))))) ((((1 : Int) + ((rnd (period) (40 : Int)))))) (1 : Int) ((rnd (pages) (65 : Int)))).2) _ (hS.rdRow 1 rfl) (hS.rdRow 3 rfl) (by first | omega | (simp; done) | (simp; omega) | (rw [stF_len]; first | omega | (simp; done) | (simp; omega)))) ?_)
      clear hF; rintro _ w ⟨rfl, hS1⟩ a hF
      replace hS := hS.callB hS1 rfl; clear hS1
      refine seq_yl hF (wn_none rfl) rfl rfl (yl_move hF rfl rfl) ?_
      clear hF; intro a hF
      replace hF := fr_set (b' := true) hF (by rw [decide_eq_true_eq, hok.2, show ((rnd pages 65)).toNat = i by omega, hi2]; exact ⟨rfl, rfl, rfl⟩)
      refine seq_wp (wn_t hF rfl rfl rfl rfl) (wp_call (vs := []) hF rfl rfl rfl rfl cf22 (awake_any _) ?_)
      clear hF; rintro _ w ⟨rfl, hS1⟩ a hF
      replace hS := hS.callB hS1 rfl; clear hS1
      refine seq_yl hF (wn_none rfl) rfl rfl (yl_pick (u := _) (v := undef) hF rfl rfl (fun _ => rfl) (fun h => by cases h)) ?_
      clear hF; intro a hF
      refine seq_yl hF (wn_none rfl) rfl rfl (yl_assign hF rfl rfl) ?_
      clear hF; intro a hF
      refine wpList_nil ?_
      refine then_n ?_
      refine wp_ret ?_
      refine ret_t hF rfl rfl ?_
      exact ⟨_, rfl, rfl, (hS.sub [] (by decide) (by first | rfl | simp) (by simp))⟩

end Go.Proofs.Ytllcklmbbkafgaa

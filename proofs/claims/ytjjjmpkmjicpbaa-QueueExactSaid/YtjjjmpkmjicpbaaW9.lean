/- walks, printed by wip/gen -/
import Derived.Test.YtjjjmpkmjicpbaaW4
namespace Go.Proofs.Ytjjjmpkmjicpbaa
open Go.RowKit
set_option linter.unusedVariables false
set_option linter.unusedSimpArgs false

theorem awake_any (w0 : World) :
    Fn Try.prog 14 #[] w0 (fun v w' => v = .bool true ∧ Sat w0 w' []) := by
  refine c_enter (N := 53) (l := []) Try.func14 rfl rfl (fun a w hF hS => ?_)
  refine c_seq ?_
  refine c_region ?_
  refine seq_yl hF (wn_none rfl) rfl rfl (yl_assign hF rfl rfl) ?_
  clear hF; intro a hF
  refine wpList_nil ?_
  refine then_n ?_
  refine c_seq ?_
  refine c_region ?_
  refine seq_yl hF (wn_none rfl) rfl rfl (yl_build (parts := [(0, .const (Go.Value.int Go.IntKind.i64 2)), (1, .const (Go.Value.int Go.IntKind.i64 1))]) (vs := [(0, _), (1, _)]) (cs := [_, _, _]) hF bd27 rfl rfl rfl rfl) ?_
  clear hF; intro a hF
  refine seq_wp (wn_none rfl) (wp_alloc (cs := #[_, _, _]) hF hS rfl rfl rfl zr27 rfl ?_)
  clear hF hS; intro a w g436 hF hS
  refine seq_wp (wn_none rfl) (wp_store (cs' := #[_, _, _]) hF hS rfl rfl rfl rfl 0 rfl sz27 (by simp [Value.cells, Value.oneCell']) (by simp [Value.cells]) rfl ?_)
  clear hF hS; intro a w hF hS
  refine wpList_nil ?_
  refine then_n ?_
  refine c_seq ?_
  refine c_region ?_
  refine seq_yl hF (wn_none rfl) rfl rfl (yl_build (parts := [(0, .const (Go.Value.int Go.IntKind.i64 2))]) (vs := [(0, _)]) (cs := [_, _, _, _]) hF bd25 rfl rfl rfl rfl) ?_
  clear hF; intro a hF
  refine seq_yl hF (wn_none rfl) rfl rfl (yl_loadK (rs := [_, _, _]) (fun _ h => h ▸ hS) hF rfl rfl 0 rfl ag27 sz27 rfl rfl) ?_
  clear hF; intro a hF
  refine seq_yl hF (wn_none rfl) rfl rfl (yl_build (parts := [(0, .const (Go.Value.int Go.IntKind.i64 1)), (1, .const (Go.Value.int Go.IntKind.i64 2)), (2, .const (Go.Value.int Go.IntKind.i64 4)), (3, .const (Go.Value.int Go.IntKind.i64 3))]) (vs := [(0, _), (1, _), (2, _), (3, _)]) (cs := [_, _, _, _, _, _, _, _, _, _, _, _]) hF bd39 rfl rfl rfl rfl) ?_
  clear hF; intro a hF
  refine seq_wp (wn_none rfl) (wp_call (vs := [_, _, _, _]) hF rfl rfl rfl rfl cf13 (push_any (Qu.mk (2 : Int) (0 : Int) (0 : Int) ([] : List E39)) (2 : Int) (1 : Int) (0 : Int) (10 : Int) (E39.mk (1 : Int) (2 : Int) (4 : Int) (3 : Int) (⟨#[]⟩) false (0 : Int) (0 : Int) (0 : Int) (0 : Int) false (0 : Int)) _ _ (rd_nil _ 12 0 enc39) (by first | omega | (simp; done) | (simp; omega))) ?_)
  clear hF; rintro _ w ⟨d437, h438, f439, er440, v442, L441, rfl, hp443, hS1⟩ a hF
  replace hS := hS.callB hS1 rfl; clear hS1
  obtain ⟨Av442, cv442, rfl⟩ := hS.form 0 rfl
  have hvhp443 : pushF (Qu.mk (2 : Int) (0 : Int) (0 : Int) ([] : List E39)) (2 : Int) (1 : Int) (0 : Int) (10 : Int) (E39.mk (1 : Int) (2 : Int) (4 : Int) (3 : Int) (⟨#[]⟩) false (0 : Int) (0 : Int) (0 : Int) (0 : Int) false (0 : Int)) = (⟨2, 7, 15, [E39.mk 1 2 4 3 ⟨#[]⟩ false 10 15 0 0 false 0]⟩, 0) := by decide +kernel
  rw [hvhp443] at hp443; injection hp443 with hq1 hq2; injection hq1 with hq3 hq4 hq5 hq6; subst hq2 hq3 hq4 hq5 hq6; clear hvhp443
  refine seq_yl hF (wn_none rfl) rfl rfl (yl_move hF rfl rfl) ?_
  clear hF; intro a hF
  refine seq_yl hF (wn_none rfl) rfl rfl (yl_extract hF rfl rfl rfl) ?_
  clear hF; intro a hF
  refine seq_yl hF (wn_none rfl) rfl rfl (yl_extract hF rfl rfl rfl) ?_
  clear hF; intro a hF
  refine seq_wp (wn_none rfl) (wp_alloc (cs := #[_, _, _, _]) hF hS rfl rfl rfl zr25 rfl ?_)
  clear hF hS; intro a w g444 hF hS
  refine seq_wp (wn_none rfl) (wp_store (cs' := #[_, _, _, _]) hF hS rfl rfl rfl rfl 0 rfl sz25 (by simp [Value.cells, Value.oneCell']) (by simp [Value.cells]) rfl ?_)
  clear hF hS; intro a w hF hS
  refine seq_yl hF (wn_none rfl) rfl rfl (yl_assign hF rfl rfl) ?_
  clear hF; intro a hF
  refine wpList_nil ?_
  refine then_n ?_
  refine c_seq ?_
  refine c_region ?_
  refine seq_yl hF (wn_none rfl) rfl rfl (yl_loadK (rs := [_, _, _, _]) (fun _ h => h ▸ hS) hF rfl rfl 0 rfl ag25 sz25 rfl rfl) ?_
  clear hF; intro a hF
  refine seq_yl hF (wn_none rfl) rfl rfl (yl_loadK (rs := [_, _, _]) (fun _ h => h ▸ hS) hF rfl rfl 2 rfl ag27 sz27 rfl rfl) ?_
  clear hF; intro a hF
  refine seq_yl hF (wn_none rfl) rfl rfl (yl_build (parts := [(0, .const (Go.Value.int Go.IntKind.i64 2)), (1, .const (Go.Value.int Go.IntKind.i64 3))]) (vs := [(0, _), (1, _)]) (cs := [_, _, _, _, _, _, _, _, _, _, _, _]) hF bd39 rfl rfl rfl rfl) ?_
  clear hF; intro a hF
  refine seq_wp (wn_none rfl) (wp_call (vs := [_, _, _, _]) hF rfl rfl rfl rfl cf13 (push_any (Qu.mk (2 : Int) (7 : Int) (15 : Int) [E39.mk 1 2 4 3 ⟨#[]⟩ false 10 15 0 0 false 0]) (2 : Int) (1 : Int) (0 : Int) (10 : Int) (E39.mk (2 : Int) (3 : Int) (0 : Int) (0 : Int) (⟨#[]⟩) false (0 : Int) (0 : Int) (0 : Int) (0 : Int) false (0 : Int)) _ _ (hS.rdRow 1 rfl) (by first | omega | (simp; done) | (simp; omega))) ?_)
  clear hF; rintro _ w ⟨d445, h446, f447, er448, v450, L449, rfl, hp451, hS1⟩ a hF
  replace hS := hS.callB hS1 rfl; clear hS1
  obtain ⟨Av450, cv450, rfl⟩ := hS.form 0 rfl
  have hvhp451 : pushF (Qu.mk (2 : Int) (7 : Int) (15 : Int) [E39.mk 1 2 4 3 ⟨#[]⟩ false 10 15 0 0 false 0]) (2 : Int) (1 : Int) (0 : Int) (10 : Int) (E39.mk (2 : Int) (3 : Int) (0 : Int) (0 : Int) (⟨#[]⟩) false (0 : Int) (0 : Int) (0 : Int) (0 : Int) false (0 : Int)) = (⟨2, 7, 17, [E39.mk 1 2 4 3 ⟨#[]⟩ false 10 15 0 0 false 0, E39.mk 2 3 0 0 ⟨#[]⟩ false 15 17 0 0 false 0]⟩, 0) := by decide +kernel
  rw [hvhp451] at hp451; injection hp451 with hq1 hq2; injection hq1 with hq3 hq4 hq5 hq6; subst hq2 hq3 hq4 hq5 hq6; clear hvhp451
  refine seq_yl hF (wn_none rfl) rfl rfl (yl_move hF rfl rfl) ?_
  clear hF; intro a hF
  refine seq_yl hF (wn_none rfl) rfl rfl (yl_extract hF rfl rfl rfl) ?_
  clear hF; intro a hF
  refine seq_yl hF (wn_none rfl) rfl rfl (yl_extract hF rfl rfl rfl) ?_
  clear hF; intro a hF
  refine seq_wp (wn_none rfl) (wp_store (cs' := #[_, _, _, _]) hF hS rfl rfl rfl rfl 1 rfl sz25 (by simp [Value.cells, Value.oneCell']) (by simp [Value.cells]) rfl ?_)
  clear hF hS; intro a w hF hS
  refine seq_yl hF (wn_none rfl) rfl rfl (yl_assign hF rfl rfl) ?_
  clear hF; intro a hF
  refine wpList_nil ?_
  refine then_n ?_
  refine c_seq ?_
  refine c_region ?_
  refine seq_yl hF (wn_none rfl) rfl rfl (yl_move hF rfl rfl) ?_
  clear hF; intro a hF
  refine seq_yl hF (wn_none rfl) rfl rfl (yl_bin hF rfl rfl rfl rfl (fun _ => run_eql)) ?_
  clear hF; intro a hF
  replace hF := fr_set (b' := true) hF (by decide)
  refine seq_yl hF (wn_none rfl) rfl rfl (yl_move hF rfl rfl) ?_
  clear hF; intro a hF
  refine seq_yl hF (wn_t hF rfl rfl rfl rfl) rfl rfl (yl_move hF rfl rfl) ?_
  clear hF; intro a hF
  refine seq_yl hF (wn_t hF rfl rfl rfl rfl) rfl rfl (yl_bin hF rfl rfl rfl rfl (fun _ => run_eql)) ?_
  clear hF; intro a hF
  replace hF := fr_set (b' := true) hF (by decide)
  refine seq_yl hF (wn_none rfl) rfl rfl (yl_pick (u := _) (v := undef) hF rfl rfl (fun _ => rfl) (fun h => by cases h)) ?_
  clear hF; intro a hF
  refine seq_yl hF (wn_none rfl) rfl rfl (yl_move hF rfl rfl) ?_
  clear hF; intro a hF
  refine seq_yl hF (wn_t hF rfl rfl rfl rfl) rfl rfl (yl_fieldAddr hF rfl rfl (fun w => by kernel_rfl : ∀ w, (Instr.fieldAt 25 (.pointer (some ⟨g444, 0, none⟩)) 3).run Try.prog w = .ok (.pointer (some ⟨g444, 3, none⟩)) w)) ?_
  clear hF; intro a hF
  refine seq_yl hF (wn_t hF rfl rfl rfl rfl) rfl rfl (yl_load (fun _ h => h ▸ hS) hF rfl rfl 1 rfl ag23 rfl) ?_
  clear hF; intro a hF
  refine seq_yl hF (wn_t hF rfl rfl rfl rfl) rfl rfl (yl_len hF rfl rfl (fun _ => run_lenRd sl23 (hS.rdRow 0 rfl))) ?_
  clear hF; intro a hF
  refine seq_yl hF (wn_t hF rfl rfl rfl rfl) rfl rfl (yl_bin hF rfl rfl rfl rfl (fun _ => run_eql)) ?_
  clear hF; intro a hF
  replace hF := fr_set (b' := true) hF (by simp)
  refine seq_yl hF (wn_none rfl) rfl rfl (yl_pick (u := _) (v := undef) hF rfl rfl (fun _ => rfl) (fun h => by cases h)) ?_
  clear hF; intro a hF
  refine seq_yl hF (wn_none rfl) rfl rfl (yl_move hF rfl rfl) ?_
  clear hF; intro a hF
  refine seq_yl hF (wn_t hF rfl rfl rfl rfl) rfl rfl (yl_fieldAddr hF rfl rfl (fun w => by kernel_rfl : ∀ w, (Instr.fieldAt 25 (.pointer (some ⟨g444, 0, none⟩)) 3).run Try.prog w = .ok (.pointer (some ⟨g444, 3, none⟩)) w)) ?_
  clear hF; intro a hF
  refine seq_yl hF (wn_t hF rfl rfl rfl rfl) rfl rfl (yl_load (fun _ h => h ▸ hS) hF rfl rfl 1 rfl ag23 rfl) ?_
  clear hF; intro a hF
  have hlt_hx452 : 0 < ([E39.mk 1 2 4 3 ⟨#[]⟩ false 10 15 0 0 false 0, E39.mk 2 3 0 0 ⟨#[]⟩ false 15 17 0 0 false 0]).length := by first | omega | (simp; done) | (simp; omega)
  obtain ⟨ad453, rfl⟩ := rd_some (hS.rdRow 0 rfl) hlt_hx452
  obtain ⟨x452, hx452⟩ := get_some hlt_hx452
  refine seq_yl hF (wn_t hF rfl rfl rfl rfl) rfl rfl (yl_indexAddr hF rfl rfl rfl (fun _ => run_idx' (k := 0) sl23 sz39 (hS.rdRow 0 rfl) hlt_hx452)) ?_
  clear hF; intro a hF
  refine seq_yl hF (wn_t hF rfl rfl rfl rfl) rfl rfl (yl_fieldAddr hF rfl rfl (fun w => run_fa fo39_7)) ?_
  clear hF; intro a hF
  refine seq_yl hF (wn_t hF rfl rfl rfl rfl) rfl rfl (yl_loadAt hF rfl rfl ag3 (fun _ h => rd_cell (j := 7) (enc := enc39) (by subst h; exact hS.rdRow 0 rfl) enc39_len hx452 rfl rfl)) ?_
  clear hF; intro a hF
  refine seq_yl hF (wn_t hF rfl rfl rfl rfl) rfl rfl (yl_bin hF rfl rfl rfl rfl (fun _ => run_eql)) ?_
  clear hF; intro a hF
  replace hF := fr_set (b' := true) hF (by have h9 := hx452; simp at h9; subst h9; decide)
  refine seq_yl hF (wn_none rfl) rfl rfl (yl_pick (u := _) (v := undef) hF rfl rfl (fun _ => rfl) (fun h => by cases h)) ?_
  clear hF; intro a hF
  refine seq_yl hF (wn_none rfl) rfl rfl (yl_move hF rfl rfl) ?_
  clear hF; intro a hF
  refine seq_yl hF (wn_t hF rfl rfl rfl rfl) rfl rfl (yl_fieldAddr hF rfl rfl (fun w => by kernel_rfl : ∀ w, (Instr.fieldAt 25 (.pointer (some ⟨g444, 0, none⟩)) 3).run Try.prog w = .ok (.pointer (some ⟨g444, 3, none⟩)) w)) ?_
  clear hF; intro a hF
  refine seq_yl hF (wn_t hF rfl rfl rfl rfl) rfl rfl (yl_load (fun _ h => h ▸ hS) hF rfl rfl 1 rfl ag23 rfl) ?_
  clear hF; intro a hF
  have hlt_hx454 : 1 < ([E39.mk 1 2 4 3 ⟨#[]⟩ false 10 15 0 0 false 0, E39.mk 2 3 0 0 ⟨#[]⟩ false 15 17 0 0 false 0]).length := by first | omega | (simp; done) | (simp; omega)
  obtain ⟨x454, hx454⟩ := get_some hlt_hx454
  refine seq_yl hF (wn_t hF rfl rfl rfl rfl) rfl rfl (yl_indexAddr hF rfl rfl rfl (fun _ => run_idx' (k := 1) sl23 sz39 (hS.rdRow 0 rfl) hlt_hx454)) ?_
  clear hF; intro a hF
  refine seq_yl hF (wn_t hF rfl rfl rfl rfl) rfl rfl (yl_fieldAddr hF rfl rfl (fun w => run_fa fo39_7)) ?_
  clear hF; intro a hF
  refine seq_yl hF (wn_t hF rfl rfl rfl rfl) rfl rfl (yl_loadAt hF rfl rfl ag3 (fun _ h => rd_cell (j := 7) (enc := enc39) (by subst h; exact hS.rdRow 0 rfl) enc39_len hx454 rfl rfl)) ?_
  clear hF; intro a hF
  refine seq_yl hF (wn_t hF rfl rfl rfl rfl) rfl rfl (yl_bin hF rfl rfl rfl rfl (fun _ => run_eql)) ?_
  clear hF; intro a hF
  replace hF := fr_set (b' := true) hF (by have h9 := hx454; simp at h9; subst h9; decide)
  refine seq_yl hF (wn_none rfl) rfl rfl (yl_pick (u := _) (v := undef) hF rfl rfl (fun _ => rfl) (fun h => by cases h)) ?_
  clear hF; intro a hF
  refine seq_yl hF (wn_none rfl) rfl rfl (yl_move hF rfl rfl) ?_
  clear hF; intro a hF
  refine seq_yl hF (wn_t hF rfl rfl rfl rfl) rfl rfl (yl_fieldAddr hF rfl rfl (fun w => by kernel_rfl : ∀ w, (Instr.fieldAt 25 (.pointer (some ⟨g444, 0, none⟩)) 1).run Try.prog w = .ok (.pointer (some ⟨g444, 1, none⟩)) w)) ?_
  clear hF; intro a hF
  refine seq_yl hF (wn_t hF rfl rfl rfl rfl) rfl rfl (yl_load (fun _ h => h ▸ hS) hF rfl rfl 1 rfl ag3 rfl) ?_
  clear hF; intro a hF
  refine seq_yl hF (wn_t hF rfl rfl rfl rfl) rfl rfl (yl_bin hF rfl rfl rfl rfl (fun _ => run_eql)) ?_
  clear hF; intro a hF
  replace hF := fr_set (b' := true) hF (by decide)
  refine seq_yl hF (wn_none rfl) rfl rfl (yl_pick (u := _) (v := undef) hF rfl rfl (fun _ => rfl) (fun h => by cases h)) ?_
  clear hF; intro a hF
  refine seq_yl hF (wn_none rfl) rfl rfl (yl_assign hF rfl rfl) ?_
  clear hF; intro a hF
  refine wpList_nil ?_
  refine then_n ?_
  refine wp_ret ?_
  refine ret_t hF rfl rfl ?_
  exact ⟨_, rfl, rfl, (hS.sub [] (by decide) (by first | rfl | simp) (by simp))⟩

end Go.Proofs.Ytjjjmpkmjicpbaa

/- walks, printed by wip/gen -/
import Derived.Test.YtglooclndbfhgaaW4
namespace Go.Proofs.Ytglooclndbfhgaa
open Go.RowKit
set_option linter.unusedVariables false
set_option linter.unusedSimpArgs false


theorem stF_rnd {k p fu fua} {i : Nat} {x : Int} (h : (stF k p fu fua)[i]? = some x) : (rnd x 4 = 1 ∧ x = 1) ∨ (rnd x 4 = 2 ∧ x = 2) ∨ (rnd x 4 = 3 ∧ x = 3) := by
  have hm := List.mem_of_getElem? h
  have : x = 1 ∨ x = 2 ∨ x = 3 := by
    unfold stF at hm
    split at hm
    · simp at hm; omega
    · split at hm
      · simp at hm; omega
      · split at hm
        · cases p <;> cases fu <;> cases fua <;> simp at hm <;> omega
        · simp at hm
  rcases this with rfl | rfl | rfl
  · exact .inl ⟨rfl, rfl⟩
  · exact .inr (.inl ⟨rfl, rfl⟩)
  · exact .inr (.inr ⟨rfl, rfl⟩)
theorem stF_inc {k p fu fua} {i : Nat} {x y : Int} (hi : 0 < (i : Int)) (h : (stF k p fu fua)[i]? = some x) (h2 : (stF k p fu fua)[i - 1]? = some y) : decide (x ≤ y) = false := by
  obtain ⟨i, rfl⟩ : ∃ j, i = j + 1 := ⟨i - 1, by omega⟩
  rw [decide_eq_false_iff_not]
  rw [Nat.add_sub_cancel] at h2
  unfold stF at h h2
  split at h
  · simp at h
  · split at h
    · simp at h
    · split at h
      · rename_i h3 h1 h4
        rw [if_neg h3, if_neg h1, if_pos h4] at h2
        cases p <;> cases fu <;> cases fua <;> rcases i with _ | _ | i <;> simp at h h2 <;> omega
      · simp at h
theorem mem_step {L : List Int} {k : Nat} {x : Int} (h : L[k]? = some x) (j : Int) : decide (j ∈ L.take (k + 1)) = (decide (j ∈ L.take k) || decide (j = x)) := by
  rw [List.take_add_one, h, ← Bool.decide_or]
  simp
theorem mem_all {L : List Int} {k : Nat} (h : L.length ≤ k) (j : Int) : decide (j ∈ L.take k) = decide (j ∈ L) := by rw [List.take_of_length_le h]
theorem has_1 {k : Int} {p fu fua} : decide (1 ∈ stF k p fu fua) = (decide (k = 3) || (decide (k = 2) && p)) := by
  unfold stF
  by_cases h3 : k = 3
  · simp [h3]
  · by_cases h1 : k = 1
    · simp [h1]
    · by_cases h2 : k = 2
      · cases p <;> cases fu <;> cases fua <;> simp [h2]
      · simp [h1, h2, h3]
theorem has_2 {k : Int} {p fu fua} (h : 1 ≤ k ∧ k ≤ 3) : decide (2 ∈ stF k p fu fua) = decide (k ≠ 3) := by
  unfold stF
  by_cases h3 : k = 3
  · simp [h3]
  · by_cases h1 : k = 1
    · simp [h1]
    · have h2 : k = 2 := by omega
      cases p <;> cases fu <;> cases fua <;> simp [h2]
theorem has_3 {k : Int} {p fu fua} : decide (3 ∈ stF k p fu fua) = (decide (k = 2) && (fu && !fua)) := by
  unfold stF
  by_cases h3 : k = 3
  · simp [h3]
  · by_cases h1 : k = 1
    · simp [h1]
    · by_cases h2 : k = 2
      · cases p <;> cases fu <;> cases fua <;> simp [h2]
      · simp [h1, h2, h3]

theorem stagesLaw_any (kind pre thr : Int) (fua : Bool) (w0 : World) :
    Fn Try.prog 4 #[.int .i64 kind, .int .i64 pre, .int .i64 thr, .bool fua] w0 (fun v w' => v = .bool true ∧ Sat w0 w' []) := by
  refine c_enter (N := 95) (l := [_, _, _, _]) Try.func4 rfl rfl (fun a w hF hS => ?_)
  refine c_seq ?_
  refine c_region ?_
  refine seq_yl hF (wn_none rfl) rfl rfl (yl_assign hF rfl rfl) ?_
  clear hF; intro a hF
  refine wpList_nil ?_
  refine then_n ?_
  refine c_seq ?_
  refine c_region ?_
  refine seq_yl hF (wn_none rfl) rfl rfl (yl_move hF rfl rfl) ?_
  clear hF; intro a hF
  have hr178 := rnd_bounds (kind) (3) (by omega)
  refine seq_wp (wn_none rfl) (wp_call (vs := [_, _]) hF rfl rfl rfl rfl cf17 (round_any (kind) (3) _ (by omega)) ?_)
  clear hF; rintro _ w ⟨rfl, hS1⟩ a hF
  replace hS := hS.callB hS1 rfl; clear hS1
  refine seq_yl hF (wn_none rfl) rfl rfl (yl_bin hF rfl rfl rfl rfl (fun _ => run_add (by refine ⟨?_, ?_⟩ <;> omega))) ?_
  clear hF; intro a hF
  refine seq_yl hF (wn_none rfl) rfl rfl (yl_move hF rfl rfl) ?_
  clear hF; intro a hF
  have hr179 := rnd_bounds (pre) (2) (by omega)
  refine seq_wp (wn_none rfl) (wp_call (vs := [_, _]) hF rfl rfl rfl rfl cf17 (round_any (pre) (2) _ (by omega)) ?_)
  clear hF; rintro _ w ⟨rfl, hS1⟩ a hF
  replace hS := hS.callB hS1 rfl; clear hS1
  refine seq_yl hF (wn_none rfl) rfl rfl (yl_bin hF rfl rfl rfl rfl (fun _ => run_eql)) ?_
  clear hF; intro a hF
  refine seq_yl hF (wn_none rfl) rfl rfl (yl_move hF rfl rfl) ?_
  clear hF; intro a hF
  have hr180 := rnd_bounds (thr) (2) (by omega)
  refine seq_wp (wn_none rfl) (wp_call (vs := [_, _]) hF rfl rfl rfl rfl cf17 (round_any (thr) (2) _ (by omega)) ?_)
  clear hF; rintro _ w ⟨rfl, hS1⟩ a hF
  replace hS := hS.callB hS1 rfl; clear hS1
  refine seq_yl hF (wn_none rfl) rfl rfl (yl_bin hF rfl rfl rfl rfl (fun _ => run_eql)) ?_
  clear hF; intro a hF
  refine seq_yl hF (wn_none rfl) rfl rfl (yl_build (parts := [(3, .tmp 16), (7, .tmp 19), (8, .tmp 22)]) (vs := [(3, _), (7, _), (8, _)]) (cs := [_, _, _, _, _, _, _, _, _, _]) hF bd26 rfl rfl rfl rfl) ?_
  clear hF; intro a hF
  refine seq_wp (wn_none rfl) (wp_alloc (cs := #[_, _, _, _, _, _, _, _, _, _]) hF hS rfl rfl rfl zr26 rfl ?_)
  clear hF hS; intro a w g181 hF hS
  refine seq_wp (wn_none rfl) (wp_store (cs' := #[_, _, _, _, _, _, _, _, _, _]) hF hS rfl rfl rfl rfl 0 rfl sz26 (by simp [Value.cells, Value.oneCell']) (by simp [Value.cells]) rfl ?_)
  clear hF hS; intro a w hF hS
  refine wpList_nil ?_
  refine then_n ?_
  refine c_seq ?_
  refine c_region ?_
  refine seq_yl hF (wn_none rfl) rfl rfl (yl_loadK (rs := [_, _, _, _, _, _, _, _, _, _]) (fun _ h => h ▸ hS) hF rfl rfl 0 rfl ag26 sz26 rfl rfl) ?_
  clear hF; intro a hF
  refine seq_yl hF (wn_none rfl) rfl rfl (yl_move hF rfl rfl) ?_
  clear hF; intro a hF
  refine seq_wp (wn_none rfl) (wp_call (vs := [_, _]) hF rfl rfl rfl rfl cf11 (stages_any _ _ _ _ _ _ _ _ _ _ _ _) ?_)
  clear hF; rintro _ w ⟨v182, rfl, hS1⟩ a hF
  replace hS := hS.callB hS1 rfl; clear hS1
  obtain ⟨Av182, cv182, rfl⟩ := hS.form 0 rfl
  refine seq_yl hF (wn_none rfl) rfl rfl (yl_assign hF rfl rfl) ?_
  clear hF; intro a hF
  refine wpList_nil ?_
  refine then_n ?_
  refine c_seq ?_
  refine c_region ?_
  refine seq_yl hF (wn_none rfl) rfl rfl (yl_build1 (parts := []) (vs := []) (r := .agg #[.bool false, .bool false, .bool false, .bool false]) hF rfl rfl (fun w => by kernel_rfl)) ?_
  clear hF; intro a hF
  refine seq_wp (wn_none rfl) (wp_alloc (cs := #[_, _, _, _]) hF hS rfl rfl rfl zr38 rfl ?_)
  clear hF hS; intro a w g183 hF hS
  refine seq_wp (wn_none rfl) (wp_store (cs' := #[_, _, _, _]) hF hS rfl rfl rfl rfl 0 rfl sz38 (by simp [Value.cells, Value.oneCell']) (by simp [Value.cells]) rfl ?_)
  clear hF hS; intro a w hF hS
  refine wpList_nil ?_
  refine then_n ?_
  refine c_seq ?_
  refine c_seq ?_
  refine c_region ?_
  refine seq_yl hF (wn_none rfl) rfl rfl (yl_assign hF rfl rfl) ?_
  clear hF; intro a hF
  refine wpList_nil ?_
  refine then_n ?_
  refine wp_block ?_
  have hlen := stF_len (1 + (rnd kind 3)) (decide ((rnd pre 2) = 1)) (decide ((rnd thr 2) = 1)) fua
  refine c_loop (fun m a w => ∃ (k : Nat) (b0 b1 b2 b3 : Bool), m = (stF (((1) + ((rnd (kind) (3))))) (decide (((rnd (pre) (2))) = (1))) (decide (((rnd (thr) (2))) = (1))) fua).length - k ∧ (k ≤ (stF (((1) + ((rnd (kind) (3))))) (decide (((rnd (pre) (2))) = (1))) (decide (((rnd (thr) (2))) = (1))) fua).length ∧ b0 = decide ((0 : Int) ∈ (stF (((1) + ((rnd (kind) (3))))) (decide (((rnd (pre) (2))) = (1))) (decide (((rnd (thr) (2))) = (1))) fua).take k) ∧ b1 = decide ((1 : Int) ∈ (stF (((1) + ((rnd (kind) (3))))) (decide (((rnd (pre) (2))) = (1))) (decide (((rnd (thr) (2))) = (1))) fua).take k) ∧ b2 = decide ((2 : Int) ∈ (stF (((1) + ((rnd (kind) (3))))) (decide (((rnd (pre) (2))) = (1))) (decide (((rnd (thr) (2))) = (1))) fua).take k) ∧ b3 = decide ((3 : Int) ∈ (stF (((1) + ((rnd (kind) (3))))) (decide (((rnd (pre) (2))) = (1))) (decide (((rnd (thr) (2))) = (1))) fua).take k)) ∧ Fr 95 a [(3, .bool fua), (8, .bool false), (9, .pointer (some ⟨g181, 0, none⟩)), (10, .slice Av182 ((stF (((1) + ((rnd (kind) (3))))) (decide (((rnd (pre) (2))) = (1))) (decide (((rnd (thr) (2))) = (1))) fua)).length cv182), (11, .pointer (some ⟨g183, 0, none⟩)), (12, .int .i64 ((k : Nat) : Int))] ∧ Sat w0 w [.box g181 26 #[.int .i64 (0), .int .i64 (0), .int .i64 (0), .int .i64 (((1) + ((rnd (kind) (3))))), .int .i64 (0), .int .i64 (0), .string ⟨#[]⟩, .bool (decide (((rnd (pre) (2))) = (1))), .bool (decide (((rnd (thr) (2))) = (1))), .int .i64 (0)], .row 3 1 (.slice Av182 ((stF (((1) + ((rnd (kind) (3))))) (decide (((rnd (pre) (2))) = (1))) (decide (((rnd (thr) (2))) = (1))) fua)).length cv182) ((stF (((1) + ((rnd (kind) (3))))) (decide (((rnd (pre) (2))) = (1))) (decide (((rnd (thr) (2))) = (1))) fua)).length (cells encI ((stF (((1) + ((rnd (kind) (3))))) (decide (((rnd (pre) (2))) = (1))) (decide (((rnd (thr) (2))) = (1))) fua))), .box g183 38 #[.bool b0, .bool b1, .bool b2, .bool b3]]) ((stF (((1) + ((rnd (kind) (3))))) (decide (((rnd (pre) (2))) = (1))) (decide (((rnd (thr) (2))) = (1))) fua).length - 0) ?_ ?_
  · exact ⟨0, false, false, false, false, rfl, ⟨Nat.zero_le _, by simp, by simp, by simp, by simp⟩, hF.to [3, 8, 9, 10, 11, 12] rfl, (hS.sub [2, 1, 0] (by decide) rfl (by simp))⟩
  · clear hF hS a w; rintro m a w ⟨k, b0, b1, b2, b3, rfl, hinv, hF, hS⟩
    have hk := hinv.1
    refine c_seq ?_
    refine c_seq ?_
    refine c_region ?_
    refine seq_yl hF (wn_none rfl) rfl rfl (yl_move hF rfl rfl) ?_
    clear hF; intro a hF
    refine seq_yl hF (wn_none rfl) rfl rfl (yl_move hF rfl rfl) ?_
    clear hF; intro a hF
    refine seq_yl hF (wn_none rfl) rfl rfl (yl_len hF rfl rfl (fun _ => run_lenRd sl22 (hS.rdRow 1 rfl))) ?_
    clear hF; intro a hF
    refine seq_yl hF (wn_none rfl) rfl rfl (yl_bin hF rfl rfl rfl rfl (fun _ => run_lss)) ?_
    clear hF; intro a hF
    refine wpList_nil ?_
    refine then_n ?_
    refine c_cond hF rfl (fun hc184 => ?_) (fun hc184 => ?_)
    · first | (replace hc184 := of_decide_eq_true hc184) | (subst hc184) | (replace hc184 := bnot_t hc184; subst hc184) | skip
      refine wp_skip ?_
      refine then_n ?_
      refine c_seq ?_
      refine wp_block ?_
      refine c_seq ?_
      refine c_seq ?_
      refine ha_startS hS [1] 14 (by kernel_rfl) ?_; clear hS; intro w hS
      have hSS := hS.sub [1] (by decide) rfl (by simp)
      refine ha_yl 0 hF rfl rfl rfl (by kernel_rfl) (by kernel_rfl) (by kernel_rfl) (by decide) (fun _ _ _ h => h) (wn_none rfl) (.inr hSS) (yl_move hF rfl rfl) ?_
      clear hF; intro a hF
      refine ha_yl 1 hF rfl rfl rfl (by kernel_rfl) (by kernel_rfl) (by kernel_rfl) (by decide) (fun _ _ _ h => h) (wn_none rfl) (.inr hSS) (yl_bin hF rfl rfl rfl rfl (fun _ => run_gtr)) ?_
      clear hF; intro a hF
      refine ha_yl 2 hF rfl rfl rfl (by kernel_rfl) (by kernel_rfl) (by kernel_rfl) (by decide) (fun _ _ _ h => h) (wn_none rfl) (.inr hSS) (yl_move hF rfl rfl) ?_
      clear hF; intro a hF
      refine fr_split hF (fun hc185 hF => ?_) (fun hc185 hF => ?_)
      · first | (replace hc185 := of_decide_eq_true hc185) | (subst hc185) | (replace hc185 := bnot_t hc185; subst hc185) | skip
        refine ha_yl 3 hF rfl rfl rfl (by kernel_rfl) (by kernel_rfl) (by kernel_rfl) (by decide) (fun _ _ _ h => h) (wn_t hF rfl rfl rfl rfl) (.inr hSS) (yl_move hF rfl rfl) ?_
        clear hF; intro a hF
        refine ha_yl 4 hF rfl rfl rfl (by kernel_rfl) (by kernel_rfl) (by kernel_rfl) (by decide) (fun _ _ _ h => h) (wn_t hF rfl rfl rfl rfl) (.inr hSS) (yl_move hF rfl rfl) ?_
        clear hF; intro a hF
        have hlt_hx186 : k < ((stF (((1) + ((rnd (kind) (3))))) (decide (((rnd (pre) (2))) = (1))) (decide (((rnd (thr) (2))) = (1))) fua)).length := by first | omega | (simp; done) | (simp; omega)
        obtain ⟨ad187, rfl⟩ := rd_some (hS.rdRow 1 rfl) hlt_hx186
        obtain ⟨x186, hx186⟩ := get_some hlt_hx186
        refine ha_yl 5 hF rfl rfl rfl (by kernel_rfl) (by kernel_rfl) (by kernel_rfl) (by decide) (fun _ _ _ h => h) (wn_t hF rfl rfl rfl rfl) (.inr hSS) (yl_indexAddr hF rfl rfl rfl (fun _ => run_idx sl22 sz3 hlt_hx186)) ?_
        clear hF; intro a hF
        refine ha_yl 7 hF rfl rfl rfl (by kernel_rfl) (by kernel_rfl) (by kernel_rfl) (by decide) (fun _ _ _ h => h) (wn_t hF rfl rfl rfl rfl) (.inr hSS) (yl_move hF rfl rfl) ?_
        clear hF; intro a hF
        refine ha_yl 8 hF rfl rfl rfl (by kernel_rfl) (by kernel_rfl) (by kernel_rfl) (by decide) (fun _ _ _ h => h) (wn_t hF rfl rfl rfl rfl) (.inr hSS) (yl_move hF rfl rfl) ?_
        clear hF; intro a hF
        refine ha_yl 9 hF rfl rfl rfl (by kernel_rfl) (by kernel_rfl) (by kernel_rfl) (by decide) (fun _ _ _ h => h) (wn_t hF rfl rfl rfl rfl) (.inr hSS) (yl_bin hF rfl rfl rfl rfl (fun _ => run_dec (c := 1) (by omega) (by omega))) ?_
        clear hF; intro a hF
        have hlt_hx188 : (k - 1) < ((stF (((1) + ((rnd (kind) (3))))) (decide (((rnd (pre) (2))) = (1))) (decide (((rnd (thr) (2))) = (1))) fua)).length := by first | omega | (simp; done) | (simp; omega)
        obtain ⟨x188, hx188⟩ := get_some hlt_hx188
        refine ha_yl 10 hF rfl rfl rfl (by kernel_rfl) (by kernel_rfl) (by kernel_rfl) (by decide) (fun _ _ _ h => h) (wn_t hF rfl rfl rfl rfl) (.inr hSS) (yl_indexAddr hF rfl rfl rfl (fun _ => run_idx sl22 sz3 hlt_hx188)) ?_
        clear hF; intro a hF
        refine ha_ld 6 hF rfl rfl rfl (by kernel_rfl) (by kernel_rfl) (by kernel_rfl) (by decide) (by kernel_rfl) (by kernel_rfl) (fun _ _ _ h => h) (wn_t hF rfl rfl rfl rfl) hSS (yl_loadAt hF rfl rfl ag3 (fun _ h => rd_cell0 (Sat.rdRow h 0 rfl) encI_len hx186 rfl rfl)) ?_
        clear hF; intro a hF
        refine ha_ld 11 hF rfl rfl rfl (by kernel_rfl) (by kernel_rfl) (by kernel_rfl) (by decide) (by kernel_rfl) (by kernel_rfl) (fun _ _ _ h => h) (wn_t hF rfl rfl rfl rfl) hSS (yl_loadAt hF rfl rfl ag3 (fun _ h => rd_cell0 (Sat.rdRow h 0 rfl) encI_len hx188 rfl rfl)) ?_
        clear hF; intro a hF
        refine ha_yl 12 hF rfl rfl rfl (by kernel_rfl) (by kernel_rfl) (by kernel_rfl) (by decide) (fun _ _ _ h => h) (wn_t hF rfl rfl rfl rfl) (.inr hSS) (yl_bin hF rfl rfl rfl rfl (fun _ => run_leq)) ?_
        clear hF; intro a hF
        refine ha_yl 13 hF rfl rfl rfl (by kernel_rfl) (by kernel_rfl) (by kernel_rfl) (by decide) (fun _ _ _ h => h) (wn_none rfl) (.inr hSS) (yl_pick (u := _) (v := undef) hF rfl rfl (fun _ => rfl) (fun h => by cases h)) ?_
        clear hF; intro a hF
        replace hF := fr_set (b' := false) hF (stF_inc (by omega) hx186 hx188)
        refine ha_done (by kernel_rfl) ?_ _
        refine then_n ?_
        refine c_cond_f hF rfl ?_
        refine wp_skip ?_
        refine then_n ?_
        refine c_region ?_
        refine seq_yl hF (wn_none rfl) rfl rfl (yl_move hF rfl rfl) ?_
        clear hF; intro a hF
        refine seq_yl hF (wn_none rfl) rfl rfl (yl_move hF rfl rfl) ?_
        clear hF; intro a hF
        refine seq_yl hF (wn_none rfl) rfl rfl (yl_indexAddr hF rfl rfl rfl (fun _ => run_idx sl22 sz3 hlt_hx186)) ?_
        clear hF; intro a hF
        refine seq_yl hF (wn_none rfl) rfl rfl (yl_loadAt hF rfl rfl ag3 (fun _ h => rd_cell0 (by subst h; exact hS.rdRow 1 rfl) encI_len hx186 rfl rfl)) ?_
        clear hF; intro a hF
        have hr189 := rnd_bounds (x186) (4) (by omega)
        refine seq_wp (wn_none rfl) (wp_call (vs := [_, _]) hF rfl rfl rfl rfl cf17 (round_any (x186) (4) _ (by omega)) ?_)
        clear hF; rintro _ w ⟨rfl, hS1⟩ a hF
        replace hS := hS.callB hS1 rfl; clear hS1
        rcases stF_rnd hx186 with ⟨hr, hx1⟩ | ⟨hr, hx1⟩ | ⟨hr, hx1⟩
        · skip
          replace hF := fr_seti (b' := 1) hF (by assumption)
          refine seq_yl hF (wn_none rfl) rfl rfl (yl_indexAddr hF rfl rfl rfl (fun w => by kernel_rfl : ∀ w, (Instr.indexAt 38 (.pointer (some ⟨g183, 0, none⟩)) (.int .i64 1)).run Try.prog w = .ok (.pointer (some ⟨g183, 1, none⟩)) w)) ?_
          clear hF; intro a hF
          refine seq_wp (wn_none rfl) (wp_store (cs' := #[_, _, _, _]) hF hS rfl rfl rfl rfl 2 rfl sz4 (by simp [Value.cells, Value.oneCell']) (by simp [Value.cells]) rfl ?_)
          clear hF hS; intro a w hF hS
          refine wpList_nil ?_
          refine inb_n ?_
          refine then_n ?_
          refine c_region ?_
          refine seq_yl hF (wn_none rfl) rfl rfl (yl_move hF rfl rfl) ?_
          clear hF; intro a hF
          refine seq_yl hF (wn_none rfl) rfl rfl (yl_bin hF rfl rfl rfl rfl (fun _ => run_inc (by omega))) ?_
          clear hF; intro a hF
          refine seq_yl hF (wn_none rfl) rfl rfl (yl_assign hF rfl rfl) ?_
          clear hF; intro a hF
          refine wpList_nil ?_
          refine then_n ?_
          exact ⟨_, (by omega), k + 1, _, _, _, _, rfl, ⟨by omega, by first | (rw [mem_step hx186, ← hinv.2.1]; simp [hx1]) | (rw [mem_step hx186]; simp [hx1]), by first | (rw [mem_step hx186, ← hinv.2.2.1]; simp [hx1]) | (rw [mem_step hx186]; simp [hx1]), by first | (rw [mem_step hx186, ← hinv.2.2.2.1]; simp [hx1]) | (rw [mem_step hx186]; simp [hx1]), by first | (rw [mem_step hx186, ← hinv.2.2.2.2]; simp [hx1]) | (rw [mem_step hx186]; simp [hx1])⟩, hF.to [3, 8, 9, 10, 11, 12] rfl, (hS.sub [0, 1, 2] (by decide) rfl (by simp))⟩
        · skip
          replace hF := fr_seti (b' := 2) hF (by assumption)
          refine seq_yl hF (wn_none rfl) rfl rfl (yl_indexAddr hF rfl rfl rfl (fun w => by kernel_rfl : ∀ w, (Instr.indexAt 38 (.pointer (some ⟨g183, 0, none⟩)) (.int .i64 2)).run Try.prog w = .ok (.pointer (some ⟨g183, 2, none⟩)) w)) ?_
          clear hF; intro a hF
          refine seq_wp (wn_none rfl) (wp_store (cs' := #[_, _, _, _]) hF hS rfl rfl rfl rfl 2 rfl sz4 (by simp [Value.cells, Value.oneCell']) (by simp [Value.cells]) rfl ?_)
          clear hF hS; intro a w hF hS
          refine wpList_nil ?_
          refine inb_n ?_
          refine then_n ?_
          refine c_region ?_
          refine seq_yl hF (wn_none rfl) rfl rfl (yl_move hF rfl rfl) ?_
          clear hF; intro a hF
          refine seq_yl hF (wn_none rfl) rfl rfl (yl_bin hF rfl rfl rfl rfl (fun _ => run_inc (by omega))) ?_
          clear hF; intro a hF
          refine seq_yl hF (wn_none rfl) rfl rfl (yl_assign hF rfl rfl) ?_
          clear hF; intro a hF
          refine wpList_nil ?_
          refine then_n ?_
          exact ⟨_, (by omega), k + 1, _, _, _, _, rfl, ⟨by omega, by first | (rw [mem_step hx186, ← hinv.2.1]; simp [hx1]) | (rw [mem_step hx186]; simp [hx1]), by first | (rw [mem_step hx186, ← hinv.2.2.1]; simp [hx1]) | (rw [mem_step hx186]; simp [hx1]), by first | (rw [mem_step hx186, ← hinv.2.2.2.1]; simp [hx1]) | (rw [mem_step hx186]; simp [hx1]), by first | (rw [mem_step hx186, ← hinv.2.2.2.2]; simp [hx1]) | (rw [mem_step hx186]; simp [hx1])⟩, hF.to [3, 8, 9, 10, 11, 12] rfl, (hS.sub [0, 1, 2] (by decide) rfl (by simp))⟩
        · skip
          replace hF := fr_seti (b' := 3) hF (by assumption)
          refine seq_yl hF (wn_none rfl) rfl rfl (yl_indexAddr hF rfl rfl rfl (fun w => by kernel_rfl : ∀ w, (Instr.indexAt 38 (.pointer (some ⟨g183, 0, none⟩)) (.int .i64 3)).run Try.prog w = .ok (.pointer (some ⟨g183, 3, none⟩)) w)) ?_
          clear hF; intro a hF
          refine seq_wp (wn_none rfl) (wp_store (cs' := #[_, _, _, _]) hF hS rfl rfl rfl rfl 2 rfl sz4 (by simp [Value.cells, Value.oneCell']) (by simp [Value.cells]) rfl ?_)
          clear hF hS; intro a w hF hS
          refine wpList_nil ?_
          refine inb_n ?_
          refine then_n ?_
          refine c_region ?_
          refine seq_yl hF (wn_none rfl) rfl rfl (yl_move hF rfl rfl) ?_
          clear hF; intro a hF
          refine seq_yl hF (wn_none rfl) rfl rfl (yl_bin hF rfl rfl rfl rfl (fun _ => run_inc (by omega))) ?_
          clear hF; intro a hF
          refine seq_yl hF (wn_none rfl) rfl rfl (yl_assign hF rfl rfl) ?_
          clear hF; intro a hF
          refine wpList_nil ?_
          refine then_n ?_
          exact ⟨_, (by omega), k + 1, _, _, _, _, rfl, ⟨by omega, by first | (rw [mem_step hx186, ← hinv.2.1]; simp [hx1]) | (rw [mem_step hx186]; simp [hx1]), by first | (rw [mem_step hx186, ← hinv.2.2.1]; simp [hx1]) | (rw [mem_step hx186]; simp [hx1]), by first | (rw [mem_step hx186, ← hinv.2.2.2.1]; simp [hx1]) | (rw [mem_step hx186]; simp [hx1]), by first | (rw [mem_step hx186, ← hinv.2.2.2.2]; simp [hx1]) | (rw [mem_step hx186]; simp [hx1])⟩, hF.to [3, 8, 9, 10, 11, 12] rfl, (hS.sub [0, 1, 2] (by decide) rfl (by simp))⟩
      · first | (replace hc185 := of_decide_eq_false hc185) | (subst hc185) | (replace hc185 := bnot_f hc185; subst hc185) | skip
        refine ha_skip 3 hF rfl rfl rfl (by kernel_rfl) (by kernel_rfl) (by kernel_rfl) (by decide) (fun _ _ _ h => h) (wn_f hF rfl rfl rfl rfl) (.inr hSS) ?_
        clear hF; intro a hF
        refine ha_skip 4 hF rfl rfl rfl (by kernel_rfl) (by kernel_rfl) (by kernel_rfl) (by decide) (fun _ _ _ h => h) (wn_f hF rfl rfl rfl rfl) (.inr hSS) ?_
        clear hF; intro a hF
        refine ha_skip 5 hF rfl rfl rfl (by kernel_rfl) (by kernel_rfl) (by kernel_rfl) (by decide) (fun _ _ _ h => h) (wn_f hF rfl rfl rfl rfl) (.inr hSS) ?_
        clear hF; intro a hF
        refine ha_skip 6 hF rfl rfl rfl (by kernel_rfl) (by kernel_rfl) (by kernel_rfl) (by decide) (fun _ _ _ h => h) (wn_f hF rfl rfl rfl rfl) (.inr hSS) ?_
        clear hF; intro a hF
        refine ha_skip 7 hF rfl rfl rfl (by kernel_rfl) (by kernel_rfl) (by kernel_rfl) (by decide) (fun _ _ _ h => h) (wn_f hF rfl rfl rfl rfl) (.inr hSS) ?_
        clear hF; intro a hF
        refine ha_skip 8 hF rfl rfl rfl (by kernel_rfl) (by kernel_rfl) (by kernel_rfl) (by decide) (fun _ _ _ h => h) (wn_f hF rfl rfl rfl rfl) (.inr hSS) ?_
        clear hF; intro a hF
        refine ha_skip 9 hF rfl rfl rfl (by kernel_rfl) (by kernel_rfl) (by kernel_rfl) (by decide) (fun _ _ _ h => h) (wn_f hF rfl rfl rfl rfl) (.inr hSS) ?_
        clear hF; intro a hF
        refine ha_skip 10 hF rfl rfl rfl (by kernel_rfl) (by kernel_rfl) (by kernel_rfl) (by decide) (fun _ _ _ h => h) (wn_f hF rfl rfl rfl rfl) (.inr hSS) ?_
        clear hF; intro a hF
        refine ha_skip 11 hF rfl rfl rfl (by kernel_rfl) (by kernel_rfl) (by kernel_rfl) (by decide) (fun _ _ _ h => h) (wn_f hF rfl rfl rfl rfl) (.inr hSS) ?_
        clear hF; intro a hF
        refine ha_skip 12 hF rfl rfl rfl (by kernel_rfl) (by kernel_rfl) (by kernel_rfl) (by decide) (fun _ _ _ h => h) (wn_f hF rfl rfl rfl rfl) (.inr hSS) ?_
        clear hF; intro a hF
        refine ha_yl 13 hF rfl rfl rfl (by kernel_rfl) (by kernel_rfl) (by kernel_rfl) (by decide) (fun _ _ _ h => h) (wn_none rfl) (.inr hSS) (yl_pick (u := _) (v := undef) hF rfl rfl (fun h => by cases h) (fun _ => rfl)) ?_
        clear hF; intro a hF
        replace hF := fr_set (b' := false) hF (rfl)
        refine ha_done (by kernel_rfl) ?_ _
        refine then_n ?_
        refine c_cond_f hF rfl ?_
        refine wp_skip ?_
        refine then_n ?_
        refine c_region ?_
        refine seq_yl hF (wn_none rfl) rfl rfl (yl_move hF rfl rfl) ?_
        clear hF; intro a hF
        refine seq_yl hF (wn_none rfl) rfl rfl (yl_move hF rfl rfl) ?_
        clear hF; intro a hF
        have hlt_hx190 : k < ((stF (((1) + ((rnd (kind) (3))))) (decide (((rnd (pre) (2))) = (1))) (decide (((rnd (thr) (2))) = (1))) fua)).length := by first | omega | (simp; done) | (simp; omega)
        obtain ⟨ad191, rfl⟩ := rd_some (hS.rdRow 1 rfl) hlt_hx190
        obtain ⟨x190, hx190⟩ := get_some hlt_hx190
        refine seq_yl hF (wn_none rfl) rfl rfl (yl_indexAddr hF rfl rfl rfl (fun _ => run_idx sl22 sz3 hlt_hx190)) ?_
        clear hF; intro a hF
        refine seq_yl hF (wn_none rfl) rfl rfl (yl_loadAt hF rfl rfl ag3 (fun _ h => rd_cell0 (by subst h; exact hS.rdRow 1 rfl) encI_len hx190 rfl rfl)) ?_
        clear hF; intro a hF
        have hr192 := rnd_bounds (x190) (4) (by omega)
        refine seq_wp (wn_none rfl) (wp_call (vs := [_, _]) hF rfl rfl rfl rfl cf17 (round_any (x190) (4) _ (by omega)) ?_)
        clear hF; rintro _ w ⟨rfl, hS1⟩ a hF
        replace hS := hS.callB hS1 rfl; clear hS1
        rcases stF_rnd hx190 with ⟨hr, hx1⟩ | ⟨hr, hx1⟩ | ⟨hr, hx1⟩
        · skip
          replace hF := fr_seti (b' := 1) hF (by assumption)
          refine seq_yl hF (wn_none rfl) rfl rfl (yl_indexAddr hF rfl rfl rfl (fun w => by kernel_rfl : ∀ w, (Instr.indexAt 38 (.pointer (some ⟨g183, 0, none⟩)) (.int .i64 1)).run Try.prog w = .ok (.pointer (some ⟨g183, 1, none⟩)) w)) ?_
          clear hF; intro a hF
          refine seq_wp (wn_none rfl) (wp_store (cs' := #[_, _, _, _]) hF hS rfl rfl rfl rfl 2 rfl sz4 (by simp [Value.cells, Value.oneCell']) (by simp [Value.cells]) rfl ?_)
          clear hF hS; intro a w hF hS
          refine wpList_nil ?_
          refine inb_n ?_
          refine then_n ?_
          refine c_region ?_
          refine seq_yl hF (wn_none rfl) rfl rfl (yl_move hF rfl rfl) ?_
          clear hF; intro a hF
          refine seq_yl hF (wn_none rfl) rfl rfl (yl_bin hF rfl rfl rfl rfl (fun _ => run_inc (by omega))) ?_
          clear hF; intro a hF
          refine seq_yl hF (wn_none rfl) rfl rfl (yl_assign hF rfl rfl) ?_
          clear hF; intro a hF
          refine wpList_nil ?_
          refine then_n ?_
          exact ⟨_, (by omega), k + 1, _, _, _, _, rfl, ⟨by omega, by first | (rw [mem_step hx190, ← hinv.2.1]; simp [hx1]) | (rw [mem_step hx190]; simp [hx1]), by first | (rw [mem_step hx190, ← hinv.2.2.1]; simp [hx1]) | (rw [mem_step hx190]; simp [hx1]), by first | (rw [mem_step hx190, ← hinv.2.2.2.1]; simp [hx1]) | (rw [mem_step hx190]; simp [hx1]), by first | (rw [mem_step hx190, ← hinv.2.2.2.2]; simp [hx1]) | (rw [mem_step hx190]; simp [hx1])⟩, hF.to [3, 8, 9, 10, 11, 12] rfl, (hS.sub [0, 1, 2] (by decide) rfl (by simp))⟩
        · skip
          replace hF := fr_seti (b' := 2) hF (by assumption)
          refine seq_yl hF (wn_none rfl) rfl rfl (yl_indexAddr hF rfl rfl rfl (fun w => by kernel_rfl : ∀ w, (Instr.indexAt 38 (.pointer (some ⟨g183, 0, none⟩)) (.int .i64 2)).run Try.prog w = .ok (.pointer (some ⟨g183, 2, none⟩)) w)) ?_
          clear hF; intro a hF
          refine seq_wp (wn_none rfl) (wp_store (cs' := #[_, _, _, _]) hF hS rfl rfl rfl rfl 2 rfl sz4 (by simp [Value.cells, Value.oneCell']) (by simp [Value.cells]) rfl ?_)
          clear hF hS; intro a w hF hS
          refine wpList_nil ?_
          refine inb_n ?_
          refine then_n ?_
          refine c_region ?_
          refine seq_yl hF (wn_none rfl) rfl rfl (yl_move hF rfl rfl) ?_
          clear hF; intro a hF
          refine seq_yl hF (wn_none rfl) rfl rfl (yl_bin hF rfl rfl rfl rfl (fun _ => run_inc (by omega))) ?_
          clear hF; intro a hF
          refine seq_yl hF (wn_none rfl) rfl rfl (yl_assign hF rfl rfl) ?_
          clear hF; intro a hF
          refine wpList_nil ?_
          refine then_n ?_
          exact ⟨_, (by omega), k + 1, _, _, _, _, rfl, ⟨by omega, by first | (rw [mem_step hx190, ← hinv.2.1]; simp [hx1]) | (rw [mem_step hx190]; simp [hx1]), by first | (rw [mem_step hx190, ← hinv.2.2.1]; simp [hx1]) | (rw [mem_step hx190]; simp [hx1]), by first | (rw [mem_step hx190, ← hinv.2.2.2.1]; simp [hx1]) | (rw [mem_step hx190]; simp [hx1]), by first | (rw [mem_step hx190, ← hinv.2.2.2.2]; simp [hx1]) | (rw [mem_step hx190]; simp [hx1])⟩, hF.to [3, 8, 9, 10, 11, 12] rfl, (hS.sub [0, 1, 2] (by decide) rfl (by simp))⟩
        · skip
          replace hF := fr_seti (b' := 3) hF (by assumption)
          refine seq_yl hF (wn_none rfl) rfl rfl (yl_indexAddr hF rfl rfl rfl (fun w => by kernel_rfl : ∀ w, (Instr.indexAt 38 (.pointer (some ⟨g183, 0, none⟩)) (.int .i64 3)).run Try.prog w = .ok (.pointer (some ⟨g183, 3, none⟩)) w)) ?_
          clear hF; intro a hF
          refine seq_wp (wn_none rfl) (wp_store (cs' := #[_, _, _, _]) hF hS rfl rfl rfl rfl 2 rfl sz4 (by simp [Value.cells, Value.oneCell']) (by simp [Value.cells]) rfl ?_)
          clear hF hS; intro a w hF hS
          refine wpList_nil ?_
          refine inb_n ?_
          refine then_n ?_
          refine c_region ?_
          refine seq_yl hF (wn_none rfl) rfl rfl (yl_move hF rfl rfl) ?_
          clear hF; intro a hF
          refine seq_yl hF (wn_none rfl) rfl rfl (yl_bin hF rfl rfl rfl rfl (fun _ => run_inc (by omega))) ?_
          clear hF; intro a hF
          refine seq_yl hF (wn_none rfl) rfl rfl (yl_assign hF rfl rfl) ?_
          clear hF; intro a hF
          refine wpList_nil ?_
          refine then_n ?_
          exact ⟨_, (by omega), k + 1, _, _, _, _, rfl, ⟨by omega, by first | (rw [mem_step hx190, ← hinv.2.1]; simp [hx1]) | (rw [mem_step hx190]; simp [hx1]), by first | (rw [mem_step hx190, ← hinv.2.2.1]; simp [hx1]) | (rw [mem_step hx190]; simp [hx1]), by first | (rw [mem_step hx190, ← hinv.2.2.2.1]; simp [hx1]) | (rw [mem_step hx190]; simp [hx1]), by first | (rw [mem_step hx190, ← hinv.2.2.2.2]; simp [hx1]) | (rw [mem_step hx190]; simp [hx1])⟩, hF.to [3, 8, 9, 10, 11, 12] rfl, (hS.sub [0, 1, 2] (by decide) rfl (by simp))⟩
    · first | (replace hc184 := of_decide_eq_false hc184) | (subst hc184) | (replace hc184 := bnot_f hc184; subst hc184) | skip
      refine wp_exit ?_
      refine then_x ?_
      refine then_x ?_
      refine inb_x ?_
      refine then_n ?_
      refine c_seq ?_
      refine c_region ?_
      refine seq_yl hF (wn_none rfl) rfl rfl (yl_fieldAddr hF rfl rfl (fun w => by kernel_rfl : ∀ w, (Instr.fieldAt 26 (.pointer (some ⟨g181, 0, none⟩)) 3).run Try.prog w = .ok (.pointer (some ⟨g181, 3, none⟩)) w)) ?_
      clear hF; intro a hF
      refine seq_yl hF (wn_none rfl) rfl rfl (yl_load (fun _ h => h ▸ hS) hF rfl rfl 0 rfl ag3 rfl) ?_
      clear hF; intro a hF
      refine seq_yl hF (wn_none rfl) rfl rfl (yl_bin hF rfl rfl rfl rfl (fun _ => run_eql)) ?_
      clear hF; intro a hF
      refine seq_yl hF (wn_none rfl) rfl rfl (yl_assign hF rfl rfl) ?_
      clear hF; intro a hF
      refine wpList_nil ?_
      refine then_n ?_
      refine c_seq ?_
      refine c_region ?_
      refine seq_yl hF (wn_none rfl) rfl rfl (yl_indexAddr hF rfl rfl rfl (fun w => by kernel_rfl : ∀ w, (Instr.indexAt 38 (.pointer (some ⟨g183, 0, none⟩)) (.int .i64 2)).run Try.prog w = .ok (.pointer (some ⟨g183, 2, none⟩)) w)) ?_
      clear hF; intro a hF
      refine seq_yl hF (wn_none rfl) rfl rfl (yl_load (fun _ h => h ▸ hS) hF rfl rfl 2 rfl ag4 rfl) ?_
      clear hF; intro a hF
      refine seq_yl hF (wn_none rfl) rfl rfl (yl_fieldAddr hF rfl rfl (fun w => by kernel_rfl : ∀ w, (Instr.fieldAt 26 (.pointer (some ⟨g181, 0, none⟩)) 3).run Try.prog w = .ok (.pointer (some ⟨g181, 3, none⟩)) w)) ?_
      clear hF; intro a hF
      refine seq_yl hF (wn_none rfl) rfl rfl (yl_load (fun _ h => h ▸ hS) hF rfl rfl 0 rfl ag3 rfl) ?_
      clear hF; intro a hF
      refine seq_yl hF (wn_none rfl) rfl rfl (yl_bin hF rfl rfl rfl rfl (fun _ => run_neq)) ?_
      clear hF; intro a hF
      refine seq_yl hF (wn_none rfl) rfl rfl (yl_bin hF rfl rfl rfl rfl (fun _ => run_eqb Try.underlying4)) ?_
      clear hF; intro a hF
      replace hF := fr_set (b' := true) hF (by first | (exfalso; omega) | (have hB2 := has_2 (k := (1 + (rnd kind 3))) (p := (decide ((rnd pre 2) = 1))) (fu := (decide ((rnd thr 2) = 1))) (fua := fua) (by omega); rw [← mem_all (by omega : _ ≤ k), ← hinv.2.2.2.1] at hB2; rw [hB2]; simp))
      refine seq_yl hF (wn_none rfl) rfl rfl (yl_move hF rfl rfl) ?_
      clear hF; intro a hF
      refine seq_yl hF (wn_t hF rfl rfl rfl rfl) rfl rfl (yl_indexAddr hF rfl rfl rfl (fun w => by kernel_rfl : ∀ w, (Instr.indexAt 38 (.pointer (some ⟨g183, 0, none⟩)) (.int .i64 1)).run Try.prog w = .ok (.pointer (some ⟨g183, 1, none⟩)) w)) ?_
      clear hF; intro a hF
      refine seq_yl hF (wn_t hF rfl rfl rfl rfl) rfl rfl (yl_load (fun _ h => h ▸ hS) hF rfl rfl 2 rfl ag4 rfl) ?_
      clear hF; intro a hF
      refine seq_yl hF (wn_t hF rfl rfl rfl rfl) rfl rfl (yl_fieldAddr hF rfl rfl (fun w => by kernel_rfl : ∀ w, (Instr.fieldAt 26 (.pointer (some ⟨g181, 0, none⟩)) 3).run Try.prog w = .ok (.pointer (some ⟨g181, 3, none⟩)) w)) ?_
      clear hF; intro a hF
      refine seq_yl hF (wn_t hF rfl rfl rfl rfl) rfl rfl (yl_load (fun _ h => h ▸ hS) hF rfl rfl 0 rfl ag3 rfl) ?_
      clear hF; intro a hF
      refine seq_yl hF (wn_t hF rfl rfl rfl rfl) rfl rfl (yl_bin hF rfl rfl rfl rfl (fun _ => run_eql)) ?_
      clear hF; intro a hF
      refine seq_yl hF (wn_t hF rfl rfl rfl rfl) rfl rfl (yl_move hF rfl rfl) ?_
      clear hF; intro a hF
      refine fr_split hF (fun hc193 hF => ?_) (fun hc193 hF => ?_)
      · first | (replace hc193 := of_decide_eq_true hc193) | (subst hc193) | (replace hc193 := bnot_t hc193; subst hc193) | skip
        refine seq_skip hF (wn_f hF rfl rfl rfl rfl) rfl rfl ?_
        clear hF; intro a hF
        refine seq_skip hF (wn_f hF rfl rfl rfl rfl) rfl rfl ?_
        clear hF; intro a hF
        refine seq_skip hF (wn_u hF rfl rfl rfl rfl) rfl rfl ?_
        clear hF; intro a hF
        refine seq_skip hF (wn_u hF rfl rfl rfl rfl) rfl rfl ?_
        clear hF; intro a hF
        refine seq_skip hF (wn_f hF rfl rfl rfl rfl) rfl rfl ?_
        clear hF; intro a hF
        refine seq_yl hF (wn_t hF rfl rfl rfl rfl) rfl rfl (yl_pick (u := _) (v := undef) hF rfl rfl (fun _ => rfl) (fun h => by cases h)) ?_
        clear hF; intro a hF
        refine seq_yl hF (wn_t hF rfl rfl rfl rfl) rfl rfl (yl_bin hF rfl rfl rfl rfl (fun _ => run_eqb Try.underlying4)) ?_
        clear hF; intro a hF
        replace hF := fr_set (b' := true) hF (by first | (exfalso; omega) | (have hB1 := has_1 (k := (1 + (rnd kind 3))) (p := (decide ((rnd pre 2) = 1))) (fu := (decide ((rnd thr 2) = 1))) (fua := fua); rw [← mem_all (by omega : _ ≤ k), ← hinv.2.2.1] at hB1; rw [hB1]; simp [*]))
        refine seq_yl hF (wn_none rfl) rfl rfl (yl_pick (u := _) (v := undef) hF rfl rfl (fun _ => rfl) (fun h => by cases h)) ?_
        clear hF; intro a hF
        refine seq_yl hF (wn_none rfl) rfl rfl (yl_move hF rfl rfl) ?_
        clear hF; intro a hF
        refine seq_yl hF (wn_t hF rfl rfl rfl rfl) rfl rfl (yl_indexAddr hF rfl rfl rfl (fun w => by kernel_rfl : ∀ w, (Instr.indexAt 38 (.pointer (some ⟨g183, 0, none⟩)) (.int .i64 3)).run Try.prog w = .ok (.pointer (some ⟨g183, 3, none⟩)) w)) ?_
        clear hF; intro a hF
        refine seq_yl hF (wn_t hF rfl rfl rfl rfl) rfl rfl (yl_load (fun _ h => h ▸ hS) hF rfl rfl 2 rfl ag4 rfl) ?_
        clear hF; intro a hF
        refine seq_yl hF (wn_t hF rfl rfl rfl rfl) rfl rfl (yl_move hF rfl rfl) ?_
        clear hF; intro a hF
        refine seq_yl hF (wn_t hF rfl rfl rfl rfl) rfl rfl (yl_move hF rfl rfl) ?_
        clear hF; intro a hF
        refine fr_split hF (fun hc194 hF => ?_) (fun hc194 hF => ?_)
        · first | (replace hc194 := of_decide_eq_true hc194) | (subst hc194) | (replace hc194 := bnot_t hc194; subst hc194) | skip
          refine seq_yl hF (wn_t hF rfl rfl rfl rfl) rfl rfl (yl_fieldAddr hF rfl rfl (fun w => by kernel_rfl : ∀ w, (Instr.fieldAt 26 (.pointer (some ⟨g181, 0, none⟩)) 8).run Try.prog w = .ok (.pointer (some ⟨g181, 8, none⟩)) w)) ?_
          clear hF; intro a hF
          refine seq_yl hF (wn_t hF rfl rfl rfl rfl) rfl rfl (yl_load (fun _ h => h ▸ hS) hF rfl rfl 0 rfl ag4 rfl) ?_
          clear hF; intro a hF
          refine seq_yl hF (wn_t hF rfl rfl rfl rfl) rfl rfl (yl_pick (u := _) (v := undef) hF rfl rfl (fun _ => rfl) (fun h => by cases h)) ?_
          clear hF; intro a hF
          refine seq_yl hF (wn_t hF rfl rfl rfl rfl) rfl rfl (yl_move hF rfl rfl) ?_
          clear hF; intro a hF
          refine fr_split hF (fun hc195 hF => ?_) (fun hc195 hF => ?_)
          · first | (replace hc195 := of_decide_eq_true hc195) | (subst hc195) | (replace hc195 := bnot_t hc195; subst hc195) | skip
            refine seq_yl hF (wn_t hF rfl rfl rfl rfl) rfl rfl (yl_move hF rfl rfl) ?_
            clear hF; intro a hF
            refine seq_yl hF (wn_t hF rfl rfl rfl rfl) rfl rfl (yl_un hF rfl rfl (fun _ => run_not)) ?_
            clear hF; intro a hF
            refine seq_yl hF (wn_t hF rfl rfl rfl rfl) rfl rfl (yl_pick (u := _) (v := undef) hF rfl rfl (fun _ => rfl) (fun h => by cases h)) ?_
            clear hF; intro a hF
            refine seq_yl hF (wn_t hF rfl rfl rfl rfl) rfl rfl (yl_bin hF rfl rfl rfl rfl (fun _ => run_eqb Try.underlying4)) ?_
            clear hF; intro a hF
            replace hF := fr_set (b' := true) hF (by first | (exfalso; omega) | (have hB3 := has_3 (k := (1 + (rnd kind 3))) (p := (decide ((rnd pre 2) = 1))) (fu := (decide ((rnd thr 2) = 1))) (fua := fua); rw [← mem_all (by omega : _ ≤ k), ← hinv.2.2.2.2] at hB3; rw [hB3]; simp [*]))
            refine seq_yl hF (wn_none rfl) rfl rfl (yl_pick (u := _) (v := undef) hF rfl rfl (fun _ => rfl) (fun h => by cases h)) ?_
            clear hF; intro a hF
            refine seq_yl hF (wn_none rfl) rfl rfl (yl_move hF rfl rfl) ?_
            clear hF; intro a hF
            refine seq_wp (wn_t hF rfl rfl rfl rfl) (wp_call (vs := []) hF rfl rfl rfl rfl cf16 (awake_any _) ?_)
            clear hF; rintro _ w ⟨rfl, hS1⟩ a hF
            replace hS := hS.callB hS1 rfl; clear hS1
            refine seq_yl hF (wn_none rfl) rfl rfl (yl_pick (u := _) (v := undef) hF rfl rfl (fun _ => rfl) (fun h => by cases h)) ?_
            clear hF; intro a hF
            refine seq_yl hF (wn_none rfl) rfl rfl (yl_assign hF rfl rfl) ?_
            clear hF; intro a hF
            refine wpList_nil ?_
            refine then_n ?_
            refine wp_ret ?_
            refine ret_t hF rfl rfl ?_
            exact ⟨_, rfl, rfl, (hS.sub [] (by decide) rfl (by simp))⟩
          · first | (replace hc195 := of_decide_eq_false hc195) | (subst hc195) | (replace hc195 := bnot_f hc195; subst hc195) | skip
            refine seq_skip hF (wn_f hF rfl rfl rfl rfl) rfl rfl ?_
            clear hF; intro a hF
            refine seq_skip hF (wn_f hF rfl rfl rfl rfl) rfl rfl ?_
            clear hF; intro a hF
            refine seq_yl hF (wn_t hF rfl rfl rfl rfl) rfl rfl (yl_pick (u := _) (v := undef) hF rfl rfl (fun h => by cases h) (fun _ => rfl)) ?_
            clear hF; intro a hF
            refine seq_yl hF (wn_t hF rfl rfl rfl rfl) rfl rfl (yl_bin hF rfl rfl rfl rfl (fun _ => run_eqb Try.underlying4)) ?_
            clear hF; intro a hF
            replace hF := fr_set (b' := true) hF (by first | (exfalso; omega) | (have hB3 := has_3 (k := (1 + (rnd kind 3))) (p := (decide ((rnd pre 2) = 1))) (fu := (decide ((rnd thr 2) = 1))) (fua := fua); rw [← mem_all (by omega : _ ≤ k), ← hinv.2.2.2.2] at hB3; rw [hB3]; simp [*]))
            refine seq_yl hF (wn_none rfl) rfl rfl (yl_pick (u := _) (v := undef) hF rfl rfl (fun _ => rfl) (fun h => by cases h)) ?_
            clear hF; intro a hF
            refine seq_yl hF (wn_none rfl) rfl rfl (yl_move hF rfl rfl) ?_
            clear hF; intro a hF
            refine seq_wp (wn_t hF rfl rfl rfl rfl) (wp_call (vs := []) hF rfl rfl rfl rfl cf16 (awake_any _) ?_)
            clear hF; rintro _ w ⟨rfl, hS1⟩ a hF
            replace hS := hS.callB hS1 rfl; clear hS1
            refine seq_yl hF (wn_none rfl) rfl rfl (yl_pick (u := _) (v := undef) hF rfl rfl (fun _ => rfl) (fun h => by cases h)) ?_
            clear hF; intro a hF
            refine seq_yl hF (wn_none rfl) rfl rfl (yl_assign hF rfl rfl) ?_
            clear hF; intro a hF
            refine wpList_nil ?_
            refine then_n ?_
            refine wp_ret ?_
            refine ret_t hF rfl rfl ?_
            exact ⟨_, rfl, rfl, (hS.sub [] (by decide) rfl (by simp))⟩
        · first | (replace hc194 := of_decide_eq_false hc194) | (subst hc194) | (replace hc194 := bnot_f hc194; subst hc194) | skip
          refine seq_skip hF (wn_f hF rfl rfl rfl rfl) rfl rfl ?_
          clear hF; intro a hF
          refine seq_skip hF (wn_f hF rfl rfl rfl rfl) rfl rfl ?_
          clear hF; intro a hF
          refine seq_yl hF (wn_t hF rfl rfl rfl rfl) rfl rfl (yl_pick (u := _) (v := undef) hF rfl rfl (fun h => by cases h) (fun _ => rfl)) ?_
          clear hF; intro a hF
          refine seq_yl hF (wn_t hF rfl rfl rfl rfl) rfl rfl (yl_move hF rfl rfl) ?_
          clear hF; intro a hF
          refine seq_skip hF (wn_f hF rfl rfl rfl rfl) rfl rfl ?_
          clear hF; intro a hF
          refine seq_skip hF (wn_f hF rfl rfl rfl rfl) rfl rfl ?_
          clear hF; intro a hF
          refine seq_yl hF (wn_t hF rfl rfl rfl rfl) rfl rfl (yl_pick (u := _) (v := undef) hF rfl rfl (fun h => by cases h) (fun _ => rfl)) ?_
          clear hF; intro a hF
          refine seq_yl hF (wn_t hF rfl rfl rfl rfl) rfl rfl (yl_bin hF rfl rfl rfl rfl (fun _ => run_eqb Try.underlying4)) ?_
          clear hF; intro a hF
          replace hF := fr_set (b' := true) hF (by first | (exfalso; omega) | (have hB3 := has_3 (k := (1 + (rnd kind 3))) (p := (decide ((rnd pre 2) = 1))) (fu := (decide ((rnd thr 2) = 1))) (fua := fua); rw [← mem_all (by omega : _ ≤ k), ← hinv.2.2.2.2] at hB3; rw [hB3]; simp [*]))
          refine seq_yl hF (wn_none rfl) rfl rfl (yl_pick (u := _) (v := undef) hF rfl rfl (fun _ => rfl) (fun h => by cases h)) ?_
          clear hF; intro a hF
          refine seq_yl hF (wn_none rfl) rfl rfl (yl_move hF rfl rfl) ?_
          clear hF; intro a hF
          refine seq_wp (wn_t hF rfl rfl rfl rfl) (wp_call (vs := []) hF rfl rfl rfl rfl cf16 (awake_any _) ?_)
          clear hF; rintro _ w ⟨rfl, hS1⟩ a hF
          replace hS := hS.callB hS1 rfl; clear hS1
          refine seq_yl hF (wn_none rfl) rfl rfl (yl_pick (u := _) (v := undef) hF rfl rfl (fun _ => rfl) (fun h => by cases h)) ?_
          clear hF; intro a hF
          refine seq_yl hF (wn_none rfl) rfl rfl (yl_assign hF rfl rfl) ?_
          clear hF; intro a hF
          refine wpList_nil ?_
          refine then_n ?_
          refine wp_ret ?_
          refine ret_t hF rfl rfl ?_
          exact ⟨_, rfl, rfl, (hS.sub [] (by decide) rfl (by simp))⟩
      · first | (replace hc193 := of_decide_eq_false hc193) | (subst hc193) | (replace hc193 := bnot_f hc193; subst hc193) | skip
        refine seq_yl hF (wn_t hF rfl rfl rfl rfl) rfl rfl (yl_move hF rfl rfl) ?_
        clear hF; intro a hF
        refine seq_yl hF (wn_t hF rfl rfl rfl rfl) rfl rfl (yl_move hF rfl rfl) ?_
        clear hF; intro a hF
        refine fr_split hF (fun hc196 hF => ?_) (fun hc196 hF => ?_)
        · first | (replace hc196 := of_decide_eq_true hc196) | (subst hc196) | (replace hc196 := bnot_t hc196; subst hc196) | skip
          refine seq_yl hF (wn_t hF rfl rfl rfl rfl) rfl rfl (yl_fieldAddr hF rfl rfl (fun w => by kernel_rfl : ∀ w, (Instr.fieldAt 26 (.pointer (some ⟨g181, 0, none⟩)) 7).run Try.prog w = .ok (.pointer (some ⟨g181, 7, none⟩)) w)) ?_
          clear hF; intro a hF
          refine seq_yl hF (wn_t hF rfl rfl rfl rfl) rfl rfl (yl_load (fun _ h => h ▸ hS) hF rfl rfl 0 rfl ag4 rfl) ?_
          clear hF; intro a hF
          refine seq_yl hF (wn_t hF rfl rfl rfl rfl) rfl rfl (yl_pick (u := _) (v := undef) hF rfl rfl (fun _ => rfl) (fun h => by cases h)) ?_
          clear hF; intro a hF
          refine seq_yl hF (wn_t hF rfl rfl rfl rfl) rfl rfl (yl_pick (u := _) (v := undef) hF rfl rfl (fun h => by cases h) (fun _ => rfl)) ?_
          clear hF; intro a hF
          refine seq_yl hF (wn_t hF rfl rfl rfl rfl) rfl rfl (yl_bin hF rfl rfl rfl rfl (fun _ => run_eqb Try.underlying4)) ?_
          clear hF; intro a hF
          replace hF := fr_set (b' := true) hF (by first | (exfalso; omega) | (have hB1 := has_1 (k := (1 + (rnd kind 3))) (p := (decide ((rnd pre 2) = 1))) (fu := (decide ((rnd thr 2) = 1))) (fua := fua); rw [← mem_all (by omega : _ ≤ k), ← hinv.2.2.1] at hB1; rw [hB1]; simp [*]))
          refine seq_yl hF (wn_none rfl) rfl rfl (yl_pick (u := _) (v := undef) hF rfl rfl (fun _ => rfl) (fun h => by cases h)) ?_
          clear hF; intro a hF
          refine seq_yl hF (wn_none rfl) rfl rfl (yl_move hF rfl rfl) ?_
          clear hF; intro a hF
          refine seq_yl hF (wn_t hF rfl rfl rfl rfl) rfl rfl (yl_indexAddr hF rfl rfl rfl (fun w => by kernel_rfl : ∀ w, (Instr.indexAt 38 (.pointer (some ⟨g183, 0, none⟩)) (.int .i64 3)).run Try.prog w = .ok (.pointer (some ⟨g183, 3, none⟩)) w)) ?_
          clear hF; intro a hF
          refine seq_yl hF (wn_t hF rfl rfl rfl rfl) rfl rfl (yl_load (fun _ h => h ▸ hS) hF rfl rfl 2 rfl ag4 rfl) ?_
          clear hF; intro a hF
          refine seq_yl hF (wn_t hF rfl rfl rfl rfl) rfl rfl (yl_move hF rfl rfl) ?_
          clear hF; intro a hF
          refine seq_yl hF (wn_t hF rfl rfl rfl rfl) rfl rfl (yl_move hF rfl rfl) ?_
          clear hF; intro a hF
          refine fr_split hF (fun hc197 hF => ?_) (fun hc197 hF => ?_)
          · first | (replace hc197 := of_decide_eq_true hc197) | (subst hc197) | (replace hc197 := bnot_t hc197; subst hc197) | skip
            refine seq_yl hF (wn_t hF rfl rfl rfl rfl) rfl rfl (yl_fieldAddr hF rfl rfl (fun w => by kernel_rfl : ∀ w, (Instr.fieldAt 26 (.pointer (some ⟨g181, 0, none⟩)) 8).run Try.prog w = .ok (.pointer (some ⟨g181, 8, none⟩)) w)) ?_
            clear hF; intro a hF
            refine seq_yl hF (wn_t hF rfl rfl rfl rfl) rfl rfl (yl_load (fun _ h => h ▸ hS) hF rfl rfl 0 rfl ag4 rfl) ?_
            clear hF; intro a hF
            refine seq_yl hF (wn_t hF rfl rfl rfl rfl) rfl rfl (yl_pick (u := _) (v := undef) hF rfl rfl (fun _ => rfl) (fun h => by cases h)) ?_
            clear hF; intro a hF
            refine seq_yl hF (wn_t hF rfl rfl rfl rfl) rfl rfl (yl_move hF rfl rfl) ?_
            clear hF; intro a hF
            refine fr_split hF (fun hc198 hF => ?_) (fun hc198 hF => ?_)
            · first | (replace hc198 := of_decide_eq_true hc198) | (subst hc198) | (replace hc198 := bnot_t hc198; subst hc198) | skip
              refine seq_yl hF (wn_t hF rfl rfl rfl rfl) rfl rfl (yl_move hF rfl rfl) ?_
              clear hF; intro a hF
              refine seq_yl hF (wn_t hF rfl rfl rfl rfl) rfl rfl (yl_un hF rfl rfl (fun _ => run_not)) ?_
              clear hF; intro a hF
              refine seq_yl hF (wn_t hF rfl rfl rfl rfl) rfl rfl (yl_pick (u := _) (v := undef) hF rfl rfl (fun _ => rfl) (fun h => by cases h)) ?_
              clear hF; intro a hF
              refine seq_yl hF (wn_t hF rfl rfl rfl rfl) rfl rfl (yl_bin hF rfl rfl rfl rfl (fun _ => run_eqb Try.underlying4)) ?_
              clear hF; intro a hF
              replace hF := fr_set (b' := true) hF (by first | (exfalso; omega) | (have hB3 := has_3 (k := (1 + (rnd kind 3))) (p := (decide ((rnd pre 2) = 1))) (fu := (decide ((rnd thr 2) = 1))) (fua := fua); rw [← mem_all (by omega : _ ≤ k), ← hinv.2.2.2.2] at hB3; rw [hB3]; simp [*]))
              refine seq_yl hF (wn_none rfl) rfl rfl (yl_pick (u := _) (v := undef) hF rfl rfl (fun _ => rfl) (fun h => by cases h)) ?_
              clear hF; intro a hF
              refine seq_yl hF (wn_none rfl) rfl rfl (yl_move hF rfl rfl) ?_
              clear hF; intro a hF
              refine seq_wp (wn_t hF rfl rfl rfl rfl) (wp_call (vs := []) hF rfl rfl rfl rfl cf16 (awake_any _) ?_)
              clear hF; rintro _ w ⟨rfl, hS1⟩ a hF
              replace hS := hS.callB hS1 rfl; clear hS1
              refine seq_yl hF (wn_none rfl) rfl rfl (yl_pick (u := _) (v := undef) hF rfl rfl (fun _ => rfl) (fun h => by cases h)) ?_
              clear hF; intro a hF
              refine seq_yl hF (wn_none rfl) rfl rfl (yl_assign hF rfl rfl) ?_
              clear hF; intro a hF
              refine wpList_nil ?_
              refine then_n ?_
              refine wp_ret ?_
              refine ret_t hF rfl rfl ?_
              exact ⟨_, rfl, rfl, (hS.sub [] (by decide) rfl (by simp))⟩
            · first | (replace hc198 := of_decide_eq_false hc198) | (subst hc198) | (replace hc198 := bnot_f hc198; subst hc198) | skip
              refine seq_skip hF (wn_f hF rfl rfl rfl rfl) rfl rfl ?_
              clear hF; intro a hF
              refine seq_skip hF (wn_f hF rfl rfl rfl rfl) rfl rfl ?_
              clear hF; intro a hF
              refine seq_yl hF (wn_t hF rfl rfl rfl rfl) rfl rfl (yl_pick (u := _) (v := undef) hF rfl rfl (fun h => by cases h) (fun _ => rfl)) ?_
              clear hF; intro a hF
              refine seq_yl hF (wn_t hF rfl rfl rfl rfl) rfl rfl (yl_bin hF rfl rfl rfl rfl (fun _ => run_eqb Try.underlying4)) ?_
              clear hF; intro a hF
              replace hF := fr_set (b' := true) hF (by first | (exfalso; omega) | (have hB3 := has_3 (k := (1 + (rnd kind 3))) (p := (decide ((rnd pre 2) = 1))) (fu := (decide ((rnd thr 2) = 1))) (fua := fua); rw [← mem_all (by omega : _ ≤ k), ← hinv.2.2.2.2] at hB3; rw [hB3]; simp [*]))
              refine seq_yl hF (wn_none rfl) rfl rfl (yl_pick (u := _) (v := undef) hF rfl rfl (fun _ => rfl) (fun h => by cases h)) ?_
              clear hF; intro a hF
              refine seq_yl hF (wn_none rfl) rfl rfl (yl_move hF rfl rfl) ?_
              clear hF; intro a hF
              refine seq_wp (wn_t hF rfl rfl rfl rfl) (wp_call (vs := []) hF rfl rfl rfl rfl cf16 (awake_any _) ?_)
              clear hF; rintro _ w ⟨rfl, hS1⟩ a hF
              replace hS := hS.callB hS1 rfl; clear hS1
              refine seq_yl hF (wn_none rfl) rfl rfl (yl_pick (u := _) (v := undef) hF rfl rfl (fun _ => rfl) (fun h => by cases h)) ?_
              clear hF; intro a hF
              refine seq_yl hF (wn_none rfl) rfl rfl (yl_assign hF rfl rfl) ?_
              clear hF; intro a hF
              refine wpList_nil ?_
              refine then_n ?_
              refine wp_ret ?_
              refine ret_t hF rfl rfl ?_
              exact ⟨_, rfl, rfl, (hS.sub [] (by decide) rfl (by simp))⟩
          · first | (replace hc197 := of_decide_eq_false hc197) | (subst hc197) | (replace hc197 := bnot_f hc197; subst hc197) | skip
            refine seq_skip hF (wn_f hF rfl rfl rfl rfl) rfl rfl ?_
            clear hF; intro a hF
            refine seq_skip hF (wn_f hF rfl rfl rfl rfl) rfl rfl ?_
            clear hF; intro a hF
            refine seq_yl hF (wn_t hF rfl rfl rfl rfl) rfl rfl (yl_pick (u := _) (v := undef) hF rfl rfl (fun h => by cases h) (fun _ => rfl)) ?_
            clear hF; intro a hF
            refine seq_yl hF (wn_t hF rfl rfl rfl rfl) rfl rfl (yl_move hF rfl rfl) ?_
            clear hF; intro a hF
            refine seq_skip hF (wn_f hF rfl rfl rfl rfl) rfl rfl ?_
            clear hF; intro a hF
            refine seq_skip hF (wn_f hF rfl rfl rfl rfl) rfl rfl ?_
            clear hF; intro a hF
            refine seq_yl hF (wn_t hF rfl rfl rfl rfl) rfl rfl (yl_pick (u := _) (v := undef) hF rfl rfl (fun h => by cases h) (fun _ => rfl)) ?_
            clear hF; intro a hF
            refine seq_yl hF (wn_t hF rfl rfl rfl rfl) rfl rfl (yl_bin hF rfl rfl rfl rfl (fun _ => run_eqb Try.underlying4)) ?_
            clear hF; intro a hF
            replace hF := fr_set (b' := true) hF (by first | (exfalso; omega) | (have hB3 := has_3 (k := (1 + (rnd kind 3))) (p := (decide ((rnd pre 2) = 1))) (fu := (decide ((rnd thr 2) = 1))) (fua := fua); rw [← mem_all (by omega : _ ≤ k), ← hinv.2.2.2.2] at hB3; rw [hB3]; simp [*]))
            refine seq_yl hF (wn_none rfl) rfl rfl (yl_pick (u := _) (v := undef) hF rfl rfl (fun _ => rfl) (fun h => by cases h)) ?_
            clear hF; intro a hF
            refine seq_yl hF (wn_none rfl) rfl rfl (yl_move hF rfl rfl) ?_
            clear hF; intro a hF
            refine seq_wp (wn_t hF rfl rfl rfl rfl) (wp_call (vs := []) hF rfl rfl rfl rfl cf16 (awake_any _) ?_)
            clear hF; rintro _ w ⟨rfl, hS1⟩ a hF
            replace hS := hS.callB hS1 rfl; clear hS1
            refine seq_yl hF (wn_none rfl) rfl rfl (yl_pick (u := _) (v := undef) hF rfl rfl (fun _ => rfl) (fun h => by cases h)) ?_
            clear hF; intro a hF
            refine seq_yl hF (wn_none rfl) rfl rfl (yl_assign hF rfl rfl) ?_
            clear hF; intro a hF
            refine wpList_nil ?_
            refine then_n ?_
            refine wp_ret ?_
            refine ret_t hF rfl rfl ?_
            exact ⟨_, rfl, rfl, (hS.sub [] (by decide) rfl (by simp))⟩
        · first | (replace hc196 := of_decide_eq_false hc196) | (subst hc196) | (replace hc196 := bnot_f hc196; subst hc196) | skip
          refine seq_skip hF (wn_f hF rfl rfl rfl rfl) rfl rfl ?_
          clear hF; intro a hF
          refine seq_skip hF (wn_f hF rfl rfl rfl rfl) rfl rfl ?_
          clear hF; intro a hF
          refine seq_yl hF (wn_t hF rfl rfl rfl rfl) rfl rfl (yl_pick (u := _) (v := undef) hF rfl rfl (fun h => by cases h) (fun _ => rfl)) ?_
          clear hF; intro a hF
          refine seq_yl hF (wn_t hF rfl rfl rfl rfl) rfl rfl (yl_pick (u := _) (v := undef) hF rfl rfl (fun h => by cases h) (fun _ => rfl)) ?_
          clear hF; intro a hF
          refine seq_yl hF (wn_t hF rfl rfl rfl rfl) rfl rfl (yl_bin hF rfl rfl rfl rfl (fun _ => run_eqb Try.underlying4)) ?_
          clear hF; intro a hF
          replace hF := fr_set (b' := true) hF (by first | (exfalso; omega) | (have hB1 := has_1 (k := (1 + (rnd kind 3))) (p := (decide ((rnd pre 2) = 1))) (fu := (decide ((rnd thr 2) = 1))) (fua := fua); rw [← mem_all (by omega : _ ≤ k), ← hinv.2.2.1] at hB1; rw [hB1]; simp [*]))
          refine seq_yl hF (wn_none rfl) rfl rfl (yl_pick (u := _) (v := undef) hF rfl rfl (fun _ => rfl) (fun h => by cases h)) ?_
          clear hF; intro a hF
          refine seq_yl hF (wn_none rfl) rfl rfl (yl_move hF rfl rfl) ?_
          clear hF; intro a hF
          refine seq_yl hF (wn_t hF rfl rfl rfl rfl) rfl rfl (yl_indexAddr hF rfl rfl rfl (fun w => by kernel_rfl : ∀ w, (Instr.indexAt 38 (.pointer (some ⟨g183, 0, none⟩)) (.int .i64 3)).run Try.prog w = .ok (.pointer (some ⟨g183, 3, none⟩)) w)) ?_
          clear hF; intro a hF
          refine seq_yl hF (wn_t hF rfl rfl rfl rfl) rfl rfl (yl_load (fun _ h => h ▸ hS) hF rfl rfl 2 rfl ag4 rfl) ?_
          clear hF; intro a hF
          refine seq_yl hF (wn_t hF rfl rfl rfl rfl) rfl rfl (yl_move hF rfl rfl) ?_
          clear hF; intro a hF
          refine seq_yl hF (wn_t hF rfl rfl rfl rfl) rfl rfl (yl_move hF rfl rfl) ?_
          clear hF; intro a hF
          refine fr_split hF (fun hc199 hF => ?_) (fun hc199 hF => ?_)
          · first | (replace hc199 := of_decide_eq_true hc199) | (subst hc199) | (replace hc199 := bnot_t hc199; subst hc199) | skip
            refine seq_yl hF (wn_t hF rfl rfl rfl rfl) rfl rfl (yl_fieldAddr hF rfl rfl (fun w => by kernel_rfl : ∀ w, (Instr.fieldAt 26 (.pointer (some ⟨g181, 0, none⟩)) 8).run Try.prog w = .ok (.pointer (some ⟨g181, 8, none⟩)) w)) ?_
            clear hF; intro a hF
            refine seq_yl hF (wn_t hF rfl rfl rfl rfl) rfl rfl (yl_load (fun _ h => h ▸ hS) hF rfl rfl 0 rfl ag4 rfl) ?_
            clear hF; intro a hF
            refine seq_yl hF (wn_t hF rfl rfl rfl rfl) rfl rfl (yl_pick (u := _) (v := undef) hF rfl rfl (fun _ => rfl) (fun h => by cases h)) ?_
            clear hF; intro a hF
            refine seq_yl hF (wn_t hF rfl rfl rfl rfl) rfl rfl (yl_move hF rfl rfl) ?_
            clear hF; intro a hF
            refine fr_split hF (fun hc200 hF => ?_) (fun hc200 hF => ?_)
            · first | (replace hc200 := of_decide_eq_true hc200) | (subst hc200) | (replace hc200 := bnot_t hc200; subst hc200) | skip
              refine seq_yl hF (wn_t hF rfl rfl rfl rfl) rfl rfl (yl_move hF rfl rfl) ?_
              clear hF; intro a hF
              refine seq_yl hF (wn_t hF rfl rfl rfl rfl) rfl rfl (yl_un hF rfl rfl (fun _ => run_not)) ?_
              clear hF; intro a hF
              refine seq_yl hF (wn_t hF rfl rfl rfl rfl) rfl rfl (yl_pick (u := _) (v := undef) hF rfl rfl (fun _ => rfl) (fun h => by cases h)) ?_
              clear hF; intro a hF
              refine seq_yl hF (wn_t hF rfl rfl rfl rfl) rfl rfl (yl_bin hF rfl rfl rfl rfl (fun _ => run_eqb Try.underlying4)) ?_
              clear hF; intro a hF
              replace hF := fr_set (b' := true) hF (by first | (exfalso; omega) | (have hB3 := has_3 (k := (1 + (rnd kind 3))) (p := (decide ((rnd pre 2) = 1))) (fu := (decide ((rnd thr 2) = 1))) (fua := fua); rw [← mem_all (by omega : _ ≤ k), ← hinv.2.2.2.2] at hB3; rw [hB3]; simp [*]))
              refine seq_yl hF (wn_none rfl) rfl rfl (yl_pick (u := _) (v := undef) hF rfl rfl (fun _ => rfl) (fun h => by cases h)) ?_
              clear hF; intro a hF
              refine seq_yl hF (wn_none rfl) rfl rfl (yl_move hF rfl rfl) ?_
              clear hF; intro a hF
              refine seq_wp (wn_t hF rfl rfl rfl rfl) (wp_call (vs := []) hF rfl rfl rfl rfl cf16 (awake_any _) ?_)
              clear hF; rintro _ w ⟨rfl, hS1⟩ a hF
              replace hS := hS.callB hS1 rfl; clear hS1
              refine seq_yl hF (wn_none rfl) rfl rfl (yl_pick (u := _) (v := undef) hF rfl rfl (fun _ => rfl) (fun h => by cases h)) ?_
              clear hF; intro a hF
              refine seq_yl hF (wn_none rfl) rfl rfl (yl_assign hF rfl rfl) ?_
              clear hF; intro a hF
              refine wpList_nil ?_
              refine then_n ?_
              refine wp_ret ?_
              refine ret_t hF rfl rfl ?_
              exact ⟨_, rfl, rfl, (hS.sub [] (by decide) rfl (by simp))⟩
            · first | (replace hc200 := of_decide_eq_false hc200) | (subst hc200) | (replace hc200 := bnot_f hc200; subst hc200) | skip
              refine seq_skip hF (wn_f hF rfl rfl rfl rfl) rfl rfl ?_
              clear hF; intro a hF
              refine seq_skip hF (wn_f hF rfl rfl rfl rfl) rfl rfl ?_
              clear hF; intro a hF
              refine seq_yl hF (wn_t hF rfl rfl rfl rfl) rfl rfl (yl_pick (u := _) (v := undef) hF rfl rfl (fun h => by cases h) (fun _ => rfl)) ?_
              clear hF; intro a hF
              refine seq_yl hF (wn_t hF rfl rfl rfl rfl) rfl rfl (yl_bin hF rfl rfl rfl rfl (fun _ => run_eqb Try.underlying4)) ?_
              clear hF; intro a hF
              replace hF := fr_set (b' := true) hF (by first | (exfalso; omega) | (have hB3 := has_3 (k := (1 + (rnd kind 3))) (p := (decide ((rnd pre 2) = 1))) (fu := (decide ((rnd thr 2) = 1))) (fua := fua); rw [← mem_all (by omega : _ ≤ k), ← hinv.2.2.2.2] at hB3; rw [hB3]; simp [*]))
              refine seq_yl hF (wn_none rfl) rfl rfl (yl_pick (u := _) (v := undef) hF rfl rfl (fun _ => rfl) (fun h => by cases h)) ?_
              clear hF; intro a hF
              refine seq_yl hF (wn_none rfl) rfl rfl (yl_move hF rfl rfl) ?_
              clear hF; intro a hF
              refine seq_wp (wn_t hF rfl rfl rfl rfl) (wp_call (vs := []) hF rfl rfl rfl rfl cf16 (awake_any _) ?_)
              clear hF; rintro _ w ⟨rfl, hS1⟩ a hF
              replace hS := hS.callB hS1 rfl; clear hS1
              refine seq_yl hF (wn_none rfl) rfl rfl (yl_pick (u := _) (v := undef) hF rfl rfl (fun _ => rfl) (fun h => by cases h)) ?_
              clear hF; intro a hF
              refine seq_yl hF (wn_none rfl) rfl rfl (yl_assign hF rfl rfl) ?_
              clear hF; intro a hF
              refine wpList_nil ?_
              refine then_n ?_
              refine wp_ret ?_
              refine ret_t hF rfl rfl ?_
              exact ⟨_, rfl, rfl, (hS.sub [] (by decide) rfl (by simp))⟩
          · first | (replace hc199 := of_decide_eq_false hc199) | (subst hc199) | (replace hc199 := bnot_f hc199; subst hc199) | skip
            refine seq_skip hF (wn_f hF rfl rfl rfl rfl) rfl rfl ?_
            clear hF; intro a hF
            refine seq_skip hF (wn_f hF rfl rfl rfl rfl) rfl rfl ?_
            clear hF; intro a hF
            refine seq_yl hF (wn_t hF rfl rfl rfl rfl) rfl rfl (yl_pick (u := _) (v := undef) hF rfl rfl (fun h => by cases h) (fun _ => rfl)) ?_
            clear hF; intro a hF
            refine seq_yl hF (wn_t hF rfl rfl rfl rfl) rfl rfl (yl_move hF rfl rfl) ?_
            clear hF; intro a hF
            refine seq_skip hF (wn_f hF rfl rfl rfl rfl) rfl rfl ?_
            clear hF; intro a hF
            refine seq_skip hF (wn_f hF rfl rfl rfl rfl) rfl rfl ?_
            clear hF; intro a hF
            refine seq_yl hF (wn_t hF rfl rfl rfl rfl) rfl rfl (yl_pick (u := _) (v := undef) hF rfl rfl (fun h => by cases h) (fun _ => rfl)) ?_
            clear hF; intro a hF
            refine seq_yl hF (wn_t hF rfl rfl rfl rfl) rfl rfl (yl_bin hF rfl rfl rfl rfl (fun _ => run_eqb Try.underlying4)) ?_
            clear hF; intro a hF
            replace hF := fr_set (b' := true) hF (by first | (exfalso; omega) | (have hB3 := has_3 (k := (1 + (rnd kind 3))) (p := (decide ((rnd pre 2) = 1))) (fu := (decide ((rnd thr 2) = 1))) (fua := fua); rw [← mem_all (by omega : _ ≤ k), ← hinv.2.2.2.2] at hB3; rw [hB3]; simp [*]))
            refine seq_yl hF (wn_none rfl) rfl rfl (yl_pick (u := _) (v := undef) hF rfl rfl (fun _ => rfl) (fun h => by cases h)) ?_
            clear hF; intro a hF
            refine seq_yl hF (wn_none rfl) rfl rfl (yl_move hF rfl rfl) ?_
            clear hF; intro a hF
            refine seq_wp (wn_t hF rfl rfl rfl rfl) (wp_call (vs := []) hF rfl rfl rfl rfl cf16 (awake_any _) ?_)
            clear hF; rintro _ w ⟨rfl, hS1⟩ a hF
            replace hS := hS.callB hS1 rfl; clear hS1
            refine seq_yl hF (wn_none rfl) rfl rfl (yl_pick (u := _) (v := undef) hF rfl rfl (fun _ => rfl) (fun h => by cases h)) ?_
            clear hF; intro a hF
            refine seq_yl hF (wn_none rfl) rfl rfl (yl_assign hF rfl rfl) ?_
            clear hF; intro a hF
            refine wpList_nil ?_
            refine then_n ?_
            refine wp_ret ?_
            refine ret_t hF rfl rfl ?_
            exact ⟨_, rfl, rfl, (hS.sub [] (by decide) rfl (by simp))⟩

end Go.Proofs.Ytglooclndbfhgaa

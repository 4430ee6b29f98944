/- walks, printed by wip/gen -/
import Derived.Test.YtiifpgkdgnoafaaP3
namespace Go.Proofs.Ytiifpgkdgnoafaa
open Go.RowKit
set_option linter.unusedVariables false
set_option linter.unusedSimpArgs false

theorem chk3 {l0 l1 l2 c0 c1 c2 : Int} (h0 : 1 ≤ l0 ∧ l0 ≤ 20 ∧ 0 ≤ c0 ∧ c0 ≤ l0) (h1 : 1 ≤ l1 ∧ l1 ≤ 20 ∧ 0 ≤ c1 ∧ c1 ≤ l1) (h2 : 1 ≤ l2 ∧ l2 ≤ 20 ∧ 0 ≤ c2 ∧ c2 ≤ l2) : chkG [E36.mk l0 0 c0, E36.mk l1 0 c1, E36.mk l2 0 c2] = true := by
  unfold chkG; rw [Bool.and_true, decide_eq_true_eq]
  refine ⟨fun e he => ?_, by simp, by simp⟩
  simp only [List.mem_cons, List.not_mem_nil, or_false] at he
  rcases he with rfl | rfl | rfl <;> (unfold okG; simp only; omega)
theorem acc_ch {G : List E36} (i : Nat) (t : Int) (ht : t = (i : Int)) {k : Int} {x : E36} (hc : chkG G = true) (hx : G[i]? = some x) (hk : 0 ≤ k ∧ k ≤ 64) :
    (decide ((chF G t k).2 = 0) = true ∧ ¬ x.f0 - x.f2 < k ∧ chF G t k = (G.set i ⟨x.f0, x.f1, x.f2 + k⟩, 0)) ∨
    (decide ((chF G t k).2 = 0) = false ∧ x.f0 - x.f2 < k ∧ chF G t k = (G, 3)) := by
  subst ht; have h := lim_ch hc hx hk
  by_cases hl : x.f0 - x.f2 < k
  · rw [if_pos hl] at h; exact .inr ⟨by rw [h]; rfl, hl, h⟩
  · rw [if_neg hl] at h; exact .inl ⟨by rw [h]; rfl, hl, h⟩
theorem acc_un {G : List E36} (i : Nat) (t : Int) (ht : t = (i : Int)) {k : Int} {x : E36} (hc : chkG G = true) (hx : G[i]? = some x) (hk : 0 ≤ k ∧ k ≤ 64) :
    (decide ((unF G t k).2 = 0) = true ∧ ¬ x.f2 < k ∧ unF G t k = (G.set i ⟨x.f0, x.f1, x.f2 - k⟩, 0)) ∨
    (decide ((unF G t k).2 = 0) = false ∧ x.f2 < k ∧ unF G t k = (G, 4)) := by
  subst ht; have h := lim_un hc hx hk
  by_cases hl : x.f2 < k
  · rw [if_pos hl] at h; exact .inr ⟨by rw [h]; rfl, hl, h⟩
  · rw [if_neg hl] at h; exact .inl ⟨by rw [h]; rfl, hl, h⟩

end Go.Proofs.Ytiifpgkdgnoafaa

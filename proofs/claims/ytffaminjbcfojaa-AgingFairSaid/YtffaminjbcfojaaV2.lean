/- An owned slice given up to reading alone; a slice that is read, twice. -/
import Derived.Test.YtffaminjbcfojaaV
namespace Go.Proofs.Ytffaminjbcfojaa
open Go.RowKit
set_option linter.unusedVariables false
theorem set_at {α : Type} {H : List α} {i j : Nat} {c d : α} (hj : (H.set i c)[j]? = some d) : (j = i ∧ d = c) ∨ (j ≠ i ∧ H[j]? = some d) := by
  rw [List.getElem?_set] at hj
  split at hj
  · rename_i e; subst e
    split at hj
    · injection hj with hj; exact .inl ⟨rfl, hj.symm⟩
    · cases hj
  · rename_i e; exact .inr ⟨fun e' => e e'.symm, hj⟩
theorem Sat.toRo {w0 w : World} {H : List Chunk} (h : Sat w0 w H) (i : Nat) {e size n : Nat} {v : Value} {xs : List Value} (hi : H[i]? = some (.row e size v n xs)) : Sat w0 w (H.set i (.ro size v n xs)) := by
  refine ⟨h.below, fun j c hj => ?_, fun j k c d hj hk hne g hg => ?_, fun j k c d hj hk g hg => ?_⟩
  · rcases set_at hj with ⟨rfl, rfl⟩ | ⟨_, hj⟩
    · exact Rd.of_own (h.own _ hi)
    · exact h.holds j c hj
  · rcases set_at hj with ⟨rfl, rfl⟩ | ⟨_, hj⟩
    · simp [Chunk.own] at hg
    · rcases set_at hk with ⟨rfl, rfl⟩ | ⟨_, hk⟩
      · simp [Chunk.own]
      · exact h.nodup j k c d hj hk hne g hg
  · rcases set_at hj with ⟨rfl, rfl⟩ | ⟨hji, hj2⟩
    · simp [Chunk.own] at hg
    · rcases set_at hk with ⟨rfl, rfl⟩ | ⟨_, hk2⟩
      · intro he
        simp only [Chunk.reads] at he
        split at he
        · cases he
        · exact h.nodup j _ c _ hj2 hi hji g hg he
      · exact h.apart j k c d hj2 hk2 g hg
theorem Sat.dupRo {w0 w : World} {H : List Chunk} (h : Sat w0 w H) (i : Nat) {size n : Nat} {v : Value} {xs : List Value} (hi : H[i]? = some (.ro size v n xs)) : Sat w0 w (.ro size v n xs :: H) := by
  refine ⟨h.below, fun j c hj => ?_, fun j k c d hj hk hne g hg => ?_, fun j k c d hj hk g hg => ?_⟩
  · cases j with
    | zero => simp at hj; subst hj; exact h.holds i _ hi
    | succ j => exact h.holds j c (by simpa using hj)
  · cases j with
    | zero => simp at hj; subst hj; simp [Chunk.own] at hg
    | succ j => cases k with
      | zero => simp at hk; subst hk; simp [Chunk.own]
      | succ k => exact h.nodup j k c d (by simpa using hj) (by simpa using hk) (by omega) g hg
  · cases j with
    | zero => simp at hj; subst hj; simp [Chunk.own] at hg
    | succ j => cases k with
      | zero => simp at hk; subst hk; exact h.apart j i c _ (by simpa using hj) hi g hg
      | succ k => exact h.apart j k c d (by simpa using hj) (by simpa using hk) g hg
end Go.Proofs.Ytffaminjbcfojaa

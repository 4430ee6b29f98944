/- walks, printed by wip/gen -/
import Derived.Test.YtjjjmpkmjicpbaaP
namespace Go.Proofs.Ytjjjmpkmjicpbaa
open Go.RowKit
set_option linter.unusedVariables false
set_option linter.unusedSimpArgs false


theorem done_len (L : List E39) (now : Int) : (restF L now).length ≤ L.length ∧ (doneF L now).length ≤ L.length := ⟨List.length_filter_le _ _, List.length_filter_le _ _⟩
theorem take_len {L L1 : List E39} {n : Int} {x : E39} {b : Bool} (h : takeF L n = (L1, x, b)) : L1.length ≤ L.length := by
  unfold takeF at h
  simp only at h
  split at h
  · injection h with h _; subst h; exact Nat.le_refl _
  · injection h with h _; subst h; simp; omega
theorem qu_eq {q r : Qu} (h1 : q.d = r.d) (h2 : q.h = r.h) (h3 : q.f = r.f) : q.L = r.L ↔ q = r := by
  constructor
  · intro h; cases q; cases r; simp_all
  · rintro rfl; rfl

end Go.Proofs.Ytjjjmpkmjicpbaa

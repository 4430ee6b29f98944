/- walks, printed by wip/gen -/
import Derived.Test.YteidhjdkaaddgaaG
namespace Go.Proofs.Yteidhjdkaaddgaa
open Go.RowKit
set_option linter.unusedVariables false
set_option linter.unusedSimpArgs false

structure E39 where
  f0 : Int
  f1 : ByteArray
def enc39 (x : E39) : List Value := [.int .i64 x.f0, .string x.f1]
instance : DecidableEq E39 := fun x y => if h : x.f0 = y.f0 ∧ x.f1 = y.f1 then .isTrue (by cases x; cases y; simp_all) else .isFalse (by rintro rfl; exact h ⟨rfl, rfl⟩)
theorem E39_ext {x y : E39} (h : x.f0 = y.f0 ∧ x.f1 = y.f1) : x = y := by cases x; cases y; simp_all
theorem enc39_len (x : E39) : (enc39 x).length = 2 := rfl
theorem enc39_one (x : E39) : ∀ u ∈ enc39 x, u.oneCell' = true := fun u hu => by
  simp only [enc39, List.mem_cons, List.not_mem_nil, or_false] at hu
  rcases hu with rfl | rfl <;> rfl
end Go.Proofs.Yteidhjdkaaddgaa

/- walks, printed by wip/gen -/
import Derived.Test.YtlhcpeolkkadbaaG
namespace Go.Proofs.Ytlhcpeolkkadbaa
open Go.RowKit
set_option linter.unusedVariables false
set_option linter.unusedSimpArgs false

structure E59 where
  f0 : Int
  f1 : ByteArray
def enc59 (x : E59) : List Value := [.int .i64 x.f0, .string x.f1]
instance : DecidableEq E59 := fun x y => if h : x.f0 = y.f0 ∧ x.f1 = y.f1 then .isTrue (by cases x; cases y; simp_all) else .isFalse (by rintro rfl; exact h ⟨rfl, rfl⟩)
theorem E59_ext {x y : E59} (h : x.f0 = y.f0 ∧ x.f1 = y.f1) : x = y := by cases x; cases y; simp_all
theorem enc59_len (x : E59) : (enc59 x).length = 2 := rfl
theorem enc59_one (x : E59) : ∀ u ∈ enc59 x, u.oneCell' = true := fun u hu => by
  simp only [enc59, List.mem_cons, List.not_mem_nil, or_false] at hu
  rcases hu with rfl | rfl <;> rfl
end Go.Proofs.Ytlhcpeolkkadbaa

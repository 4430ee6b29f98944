/- walks, printed by wip/gen -/
import Derived.Test.YtffaminjbcfojaaE
namespace Go.Proofs.Ytffaminjbcfojaa
open Go.RowKit
set_option linter.unusedVariables false
set_option linter.unusedSimpArgs false

structure E44 where
  f0 : Int
  f1 : Int
def enc44 (x : E44) : List Value := [.int .i64 x.f0, .int .i64 x.f1]
instance : DecidableEq E44 := fun x y => if h : x.f0 = y.f0 ∧ x.f1 = y.f1 then .isTrue (by cases x; cases y; simp_all) else .isFalse (by rintro rfl; exact h ⟨rfl, rfl⟩)
theorem E44_ext {x y : E44} (h : x.f0 = y.f0 ∧ x.f1 = y.f1) : x = y := by cases x; cases y; simp_all
theorem enc44_len (x : E44) : (enc44 x).length = 2 := rfl
theorem enc44_one (x : E44) : ∀ u ∈ enc44 x, u.oneCell' = true := fun u hu => by
  simp only [enc44, List.mem_cons, List.not_mem_nil, or_false] at hu
  rcases hu with rfl | rfl <;> rfl
end Go.Proofs.Ytffaminjbcfojaa

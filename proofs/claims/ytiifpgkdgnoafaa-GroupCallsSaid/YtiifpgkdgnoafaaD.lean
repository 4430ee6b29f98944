/- walks, printed by wip/gen -/
import Derived.Test.YtiifpgkdgnoafaaE
namespace Go.Proofs.Ytiifpgkdgnoafaa
open Go.RowKit
set_option linter.unusedVariables false
set_option linter.unusedSimpArgs false

structure E36 where
  f0 : Int
  f1 : Int
  f2 : Int
def enc36 (x : E36) : List Value := [.int .i64 x.f0, .int .i64 x.f1, .int .i64 x.f2]
theorem enc36_len (x : E36) : (enc36 x).length = 3 := rfl
theorem enc36_one (x : E36) : ∀ u ∈ enc36 x, u.oneCell' = true := fun u hu => by
  simp only [enc36, List.mem_cons, List.not_mem_nil, or_false] at hu
  rcases hu with rfl | rfl | rfl <;> rfl
end Go.Proofs.Ytiifpgkdgnoafaa

/- walks, printed by wip/gen -/
import Derived.Test.YtjjjmpkmjicpbaaE
namespace Go.Proofs.Ytjjjmpkmjicpbaa
open Go.RowKit
set_option linter.unusedVariables false
set_option linter.unusedSimpArgs false

structure E39 where
  f0 : Int
  f1 : Int
  f2 : Int
  f3 : Int
  f4 : ByteArray
  f5 : Bool
  f6 : Int
  f7 : Int
  f8 : Int
  f9 : Int
  f10 : Bool
  f11 : Int
def enc39 (x : E39) : List Value := [.int .i64 x.f0, .int .i64 x.f1, .int .i64 x.f2, .int .i64 x.f3, .string x.f4, .bool x.f5, .int .i64 x.f6, .int .i64 x.f7, .int .i64 x.f8, .int .i64 x.f9, .bool x.f10, .int .i64 x.f11]
instance : DecidableEq E39 := fun x y => if h : x.f0 = y.f0 ∧ x.f1 = y.f1 ∧ x.f2 = y.f2 ∧ x.f3 = y.f3 ∧ x.f4 = y.f4 ∧ x.f5 = y.f5 ∧ x.f6 = y.f6 ∧ x.f7 = y.f7 ∧ x.f8 = y.f8 ∧ x.f9 = y.f9 ∧ x.f10 = y.f10 ∧ x.f11 = y.f11 then .isTrue (by cases x; cases y; simp_all) else .isFalse (by rintro rfl; exact h ⟨rfl, rfl, rfl, rfl, rfl, rfl, rfl, rfl, rfl, rfl, rfl, rfl⟩)
theorem E39_ext {x y : E39} (h : x.f0 = y.f0 ∧ x.f1 = y.f1 ∧ x.f2 = y.f2 ∧ x.f3 = y.f3 ∧ x.f4 = y.f4 ∧ x.f5 = y.f5 ∧ x.f6 = y.f6 ∧ x.f7 = y.f7 ∧ x.f8 = y.f8 ∧ x.f9 = y.f9 ∧ x.f10 = y.f10 ∧ x.f11 = y.f11) : x = y := by cases x; cases y; simp_all
theorem enc39_len (x : E39) : (enc39 x).length = 12 := rfl
theorem enc39_one (x : E39) : ∀ u ∈ enc39 x, u.oneCell' = true := fun u hu => by
  simp only [enc39, List.mem_cons, List.not_mem_nil, or_false] at hu
  rcases hu with rfl | rfl | rfl | rfl | rfl | rfl | rfl | rfl | rfl | rfl | rfl | rfl <;> rfl
end Go.Proofs.Ytjjjmpkmjicpbaa

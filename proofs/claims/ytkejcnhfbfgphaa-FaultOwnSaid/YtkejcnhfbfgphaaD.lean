/- walks, printed by wip/gen -/
import Derived.Test.YtkejcnhfbfgphaaGB
namespace Go.Proofs.Ytkejcnhfbfgphaa
open Go.RowKit
set_option linter.unusedVariables false
set_option linter.unusedSimpArgs false

structure E37 where
  f0 : Int
  f1 : Int
  f2 : Int
  f3 : Int
  f4 : Int
  f5 : Int
  f6 : Int
  f7 : Bool
  f8 : Int
def enc37 (x : E37) : List Value := [.int .i64 x.f0, .int .i64 x.f1, .int .i64 x.f2, .int .i64 x.f3, .int .i64 x.f4, .int .i64 x.f5, .int .i64 x.f6, .bool x.f7, .int .i64 x.f8]
instance : DecidableEq E37 := fun x y => if h : x.f0 = y.f0 ∧ x.f1 = y.f1 ∧ x.f2 = y.f2 ∧ x.f3 = y.f3 ∧ x.f4 = y.f4 ∧ x.f5 = y.f5 ∧ x.f6 = y.f6 ∧ x.f7 = y.f7 ∧ x.f8 = y.f8 then .isTrue (by cases x; cases y; simp_all) else .isFalse (by rintro rfl; exact h ⟨rfl, rfl, rfl, rfl, rfl, rfl, rfl, rfl, rfl⟩)
theorem E37_ext {x y : E37} (h : x.f0 = y.f0 ∧ x.f1 = y.f1 ∧ x.f2 = y.f2 ∧ x.f3 = y.f3 ∧ x.f4 = y.f4 ∧ x.f5 = y.f5 ∧ x.f6 = y.f6 ∧ x.f7 = y.f7 ∧ x.f8 = y.f8) : x = y := by cases x; cases y; simp_all
theorem enc37_len (x : E37) : (enc37 x).length = 9 := rfl
theorem enc37_one (x : E37) : ∀ u ∈ enc37 x, u.oneCell' = true := fun u hu => by
  simp only [enc37, List.mem_cons, List.not_mem_nil, or_false] at hu
  rcases hu with rfl | rfl | rfl | rfl | rfl | rfl | rfl | rfl | rfl <;> rfl
structure E67 where
  f0 : Int
  f1 : ByteArray
def enc67 (x : E67) : List Value := [.int .i64 x.f0, .string x.f1]
instance : DecidableEq E67 := fun x y => if h : x.f0 = y.f0 ∧ x.f1 = y.f1 then .isTrue (by cases x; cases y; simp_all) else .isFalse (by rintro rfl; exact h ⟨rfl, rfl⟩)
theorem E67_ext {x y : E67} (h : x.f0 = y.f0 ∧ x.f1 = y.f1) : x = y := by cases x; cases y; simp_all
theorem enc67_len (x : E67) : (enc67 x).length = 2 := rfl
theorem enc67_one (x : E67) : ∀ u ∈ enc67 x, u.oneCell' = true := fun u hu => by
  simp only [enc67, List.mem_cons, List.not_mem_nil, or_false] at hu
  rcases hu with rfl | rfl <;> rfl
end Go.Proofs.Ytkejcnhfbfgphaa

/- the kit contract of String of strings.Builder, laid at this dump -/
import Derived.Test.YtkejcnhfbfgphaaGB
namespace Go.Proofs.Ytkejcnhfbfgphaa
open Go.RowKit
set_option linter.unusedVariables false
set_option linter.unusedSimpArgs false

def lays169_ren : Go.Shelf.Ren := ⟨fun | 169 => 64 | n => n, fun | 70 => 82 | 9 => 9 | 0 => 0 | 72 => 85 | 37 => 83 | 127 => 103 | 3 => 3 | 5 => 5 | n => n, fun | n => n⟩
theorem lays169 : Go.Proofs.Lays.n169 Try.prog lays169_ren := {
 mixed := by kernel_rfl
 f169 := Try.func64.trans (congrArg some (by kernel_rfl))
 t0 := Try.underlying0
 a0 := Try.isAgg0
 z0 := Try.sizeOf0
 v0 := Try.zeroValue0
 t3 := Try.underlying3
 a3 := Try.isAgg3
 z3 := Try.sizeOf3
 v3 := Try.zeroValue3
 t9 := Try.underlying9
 a9 := Try.isAgg9
 z9 := Try.sizeOf9
 v9 := Try.zeroValue9
 t37 := Try.underlying83
 a37 := Try.isAgg83
 z37 := Try.sizeOf83
 v37 := Try.zeroValue83
 t70 := Try.underlying82
 a70 := Try.isAgg82
 z70 := Try.sizeOf82
 v70 := Try.zeroValue82
 t72 := Try.underlying85
 a72 := Try.isAgg85
 z72 := Try.sizeOf85
 v72 := Try.zeroValue85
 t127 := Try.underlying103
 a127 := Try.isAgg103
 z127 := Try.sizeOf103
 v127 := Try.zeroValue103 }
theorem builder_Extra_169 : Go.Proofs.Builder.Extra Try.prog lays169_ren := {
 sizeBuilder := by kernel_rfl
 liesBuilder := by kernel_rfl
 t5 := Try.underlying5
 a5 := Try.isAgg5
 z5 := Try.sizeOf5
 v5 := Try.zeroValue5
 infoByte := by kernel_rfl
 cellsByte := by kernel_rfl
 sizeByte := by kernel_rfl
 neB5 := by decide }
theorem Builder_String_any (B b : Nat) (l : List UInt8) (w : World) (h : Lib.IsBuilder 85 5 B b (Lib.byteCells l) w) (hBw : B ≤ w.heap.size) :
  Calls Try.prog 64 #[.pointer (some ⟨b, 0, none⟩)] w fun e w' => e = .returned (.string ⟨l.toArray⟩) ∧ Below B w w' := Go.Proofs.Any.Builder_String_any lays169 builder_Extra_169 B b l w h hBw
end Go.Proofs.Ytkejcnhfbfgphaa

/- walks, printed by wip/gen -/
import Derived.Test.YtglooclndbfhgaaS
import Derived.Test.YtglooclndbfhgaaP
namespace Go.Proofs.Ytglooclndbfhgaa
open Go.RowKit
set_option linter.unusedVariables false
set_option linter.unusedSimpArgs false

theorem ag3 : aggB Try.prog 3 = some false := by kernel_rfl
theorem sz3 : sizeB Try.prog 3 = some 1 := by kernel_rfl
theorem zr3 : zeroB Try.prog 3 = some (.int .i64 0) := by kernel_rfl
theorem inf3 : (Try.prog.info? 3).map (fun i => (i.zero, i.size, i.bytes)) = some (some (.int .i64 0), 1, 8) := by kernel_rfl
theorem ag4 : aggB Try.prog 4 = some false := by kernel_rfl
theorem sz4 : sizeB Try.prog 4 = some 1 := by kernel_rfl
theorem zr4 : zeroB Try.prog 4 = some (.bool false) := by kernel_rfl
theorem inf4 : (Try.prog.info? 4).map (fun i => (i.zero, i.size, i.bytes)) = some (some (.bool false), 1, 1) := by kernel_rfl
theorem ag9 : aggB Try.prog 9 = some false := by kernel_rfl
theorem sz9 : sizeB Try.prog 9 = some 1 := by kernel_rfl
theorem zr9 : zeroB Try.prog 9 = some (.string ⟨#[]⟩) := by kernel_rfl
theorem inf9 : (Try.prog.info? 9).map (fun i => (i.zero, i.size, i.bytes)) = some (some (.string ⟨#[]⟩), 1, 16) := by kernel_rfl
theorem ag22 : aggB Try.prog 22 = some false := by kernel_rfl
theorem sz22 : sizeB Try.prog 22 = some 1 := by kernel_rfl
theorem sl22 : sliceB Try.prog 22 = some 3 := by kernel_rfl
theorem zr22 : zeroB Try.prog 22 = some (.slice none 0 0) := by kernel_rfl
theorem inf22 : (Try.prog.info? 22).map (fun i => (i.zero, i.size, i.bytes)) = some (some (.slice none 0 0), 1, 24) := by kernel_rfl
theorem ag24 : aggB Try.prog 24 = some true := by kernel_rfl
theorem sz24 : sizeB Try.prog 24 = some 3 := by kernel_rfl
theorem zr24 : zeroB Try.prog 24 = some (.agg #[.slice none 0 0, .slice none 0 0, .bool false]) := by kernel_rfl
theorem inf24 : (Try.prog.info? 24).map (fun i => (i.zero, i.size, i.bytes)) = some (some (.agg #[.slice none 0 0, .slice none 0 0, .bool false]), 3, 56) := by kernel_rfl
theorem ag26 : aggB Try.prog 26 = some true := by kernel_rfl
theorem sz26 : sizeB Try.prog 26 = some 10 := by kernel_rfl
theorem zr26 : zeroB Try.prog 26 = some (.agg #[.int .i64 0, .int .i64 0, .int .i64 0, .int .i64 0, .int .i64 0, .int .i64 0, .string ⟨#[]⟩, .bool false, .bool false, .int .i64 0]) := by kernel_rfl
theorem inf26 : (Try.prog.info? 26).map (fun i => (i.zero, i.size, i.bytes)) = some (some (.agg #[.int .i64 0, .int .i64 0, .int .i64 0, .int .i64 0, .int .i64 0, .int .i64 0, .string ⟨#[]⟩, .bool false, .bool false, .int .i64 0]), 10, 80) := by kernel_rfl
theorem ag38 : aggB Try.prog 38 = some true := by kernel_rfl
theorem sz38 : sizeB Try.prog 38 = some 4 := by kernel_rfl
theorem zr38 : zeroB Try.prog 38 = some (.agg #[.bool false, .bool false, .bool false, .bool false]) := by kernel_rfl
theorem inf38 : (Try.prog.info? 38).map (fun i => (i.zero, i.size, i.bytes)) = some (some (.agg #[.bool false, .bool false, .bool false, .bool false]), 4, 4) := by kernel_rfl
theorem ag42 : aggB Try.prog 42 = some false := by kernel_rfl
theorem sz42 : sizeB Try.prog 42 = some 1 := by kernel_rfl
theorem zr42 : zeroB Try.prog 42 = some (.int .u64 0) := by kernel_rfl
theorem inf42 : (Try.prog.info? 42).map (fun i => (i.zero, i.size, i.bytes)) = some (some (.int .u64 0), 1, 8) := by kernel_rfl
theorem bd24 (parts : Array (Nat × Value)) (w : World) : (Instr.build 24 parts).run Try.prog w = bres Try.prog (fun i => ([(0, 1), (1, 1), (2, 1)] : List (Nat × Nat)).toArray[i]?) ([.slice none 0 0, .slice none 0 0, .bool false] : List Value).toArray parts w := by
  simp [Instr.build, run_underlying Try.underlying24, run_zeroValue zr24, run_sizeOf sz4, run_sizeOf sz22, bres, Value.cells]
  generalize Instr.fill _ _ _ = q
  cases q <;> rfl
theorem bd26 (parts : Array (Nat × Value)) (w : World) : (Instr.build 26 parts).run Try.prog w = bres Try.prog (fun i => ([(0, 1), (1, 1), (2, 1), (3, 1), (4, 1), (5, 1), (6, 1), (7, 1), (8, 1), (9, 1)] : List (Nat × Nat)).toArray[i]?) ([.int .i64 0, .int .i64 0, .int .i64 0, .int .i64 0, .int .i64 0, .int .i64 0, .string ⟨#[]⟩, .bool false, .bool false, .int .i64 0] : List Value).toArray parts w := by
  simp [Instr.build, run_underlying Try.underlying26, run_zeroValue zr26, run_sizeOf sz3, run_sizeOf sz4, run_sizeOf sz9, bres, Value.cells]
  generalize Instr.fill _ _ _ = q
  cases q <;> rfl
theorem cf6 (args : Array Value) (w : World) : (callFunc 6 args).run Try.prog w = .ok (.enter 6 args) w := by kernel_rfl
theorem cf7 (args : Array Value) (w : World) : (callFunc 7 args).run Try.prog w = .ok (.enter 7 args) w := by kernel_rfl
theorem cf8 (args : Array Value) (w : World) : (callFunc 8 args).run Try.prog w = .ok (.enter 8 args) w := by kernel_rfl
theorem cf9 (args : Array Value) (w : World) : (callFunc 9 args).run Try.prog w = .ok (.enter 9 args) w := by kernel_rfl
theorem cf10 (args : Array Value) (w : World) : (callFunc 10 args).run Try.prog w = .ok (.enter 10 args) w := by kernel_rfl
theorem cf11 (args : Array Value) (w : World) : (callFunc 11 args).run Try.prog w = .ok (.enter 11 args) w := by kernel_rfl
theorem cf12 (args : Array Value) (w : World) : (callFunc 12 args).run Try.prog w = .ok (.enter 12 args) w := by kernel_rfl
theorem cf13 (args : Array Value) (w : World) : (callFunc 13 args).run Try.prog w = .ok (.enter 13 args) w := by kernel_rfl
theorem cf14 (args : Array Value) (w : World) : (callFunc 14 args).run Try.prog w = .ok (.enter 14 args) w := by kernel_rfl
theorem cf15 (args : Array Value) (w : World) : (callFunc 15 args).run Try.prog w = .ok (.enter 15 args) w := by kernel_rfl
theorem cf16 (args : Array Value) (w : World) : (callFunc 16 args).run Try.prog w = .ok (.enter 16 args) w := by kernel_rfl
theorem cf17 (args : Array Value) (w : World) : (callFunc 17 args).run Try.prog w = .ok (.enter 17 args) w := by kernel_rfl
theorem cf18 (args : Array Value) (w : World) : (callFunc 18 args).run Try.prog w = .ok (.enter 18 args) w := by kernel_rfl
theorem cf19 (args : Array Value) (w : World) : (callFunc 19 args).run Try.prog w = .ok (.enter 19 args) w := by kernel_rfl
end Go.Proofs.Ytglooclndbfhgaa

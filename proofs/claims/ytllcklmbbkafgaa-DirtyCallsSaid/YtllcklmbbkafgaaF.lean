/- walks, printed by wip/gen -/
import Derived.Test.YtllcklmbbkafgaaS
namespace Go.Proofs.Ytllcklmbbkafgaa
open Go.RowKit
set_option linter.unusedVariables false
set_option linter.unusedSimpArgs false

theorem ag3 : aggB Try.prog 3 = some false := by kernel_rfl
theorem sz3 : sizeB Try.prog 3 = some 1 := by kernel_rfl
theorem zr3 : zeroB Try.prog 3 = some (.int .i64 0) := by kernel_rfl
theorem inf3 : (Try.prog.info? 3).map (fun i => (i.zero, i.size, i.bytes)) = some (some (.int .i64 0), 1, 8) := by kernel_rfl
theorem ag22 : aggB Try.prog 22 = some false := by kernel_rfl
theorem sz22 : sizeB Try.prog 22 = some 1 := by kernel_rfl
theorem sl22 : sliceB Try.prog 22 = some 3 := by kernel_rfl
theorem zr22 : zeroB Try.prog 22 = some (.slice none 0 0) := by kernel_rfl
theorem inf22 : (Try.prog.info? 22).map (fun i => (i.zero, i.size, i.bytes)) = some (some (.slice none 0 0), 1, 24) := by kernel_rfl
theorem ag25 : aggB Try.prog 25 = some true := by kernel_rfl
theorem sz25 : sizeB Try.prog 25 = some 2 := by kernel_rfl
theorem zr25 : zeroB Try.prog 25 = some (.agg #[.slice none 0 0, .int .i64 0]) := by kernel_rfl
theorem inf25 : (Try.prog.info? 25).map (fun i => (i.zero, i.size, i.bytes)) = some (some (.agg #[.slice none 0 0, .int .i64 0]), 2, 32) := by kernel_rfl
theorem ag27 : aggB Try.prog 27 = some true := by kernel_rfl
theorem sz27 : sizeB Try.prog 27 = some 3 := by kernel_rfl
theorem zr27 : zeroB Try.prog 27 = some (.agg #[.slice none 0 0, .int .i64 0, .int .i64 0]) := by kernel_rfl
theorem inf27 : (Try.prog.info? 27).map (fun i => (i.zero, i.size, i.bytes)) = some (some (.agg #[.slice none 0 0, .int .i64 0, .int .i64 0]), 3, 40) := by kernel_rfl
theorem ag45 : aggB Try.prog 45 = some false := by kernel_rfl
theorem sz45 : sizeB Try.prog 45 = some 1 := by kernel_rfl
theorem zr45 : zeroB Try.prog 45 = some (.int .u64 0) := by kernel_rfl
theorem inf45 : (Try.prog.info? 45).map (fun i => (i.zero, i.size, i.bytes)) = some (some (.int .u64 0), 1, 8) := by kernel_rfl
theorem bd25 (parts : Array (Nat × Value)) (w : World) : (Instr.build 25 parts).run Try.prog w = bres Try.prog (fun i => ([(0, 1), (1, 1)] : List (Nat × Nat)).toArray[i]?) ([.slice none 0 0, .int .i64 0] : List Value).toArray parts w := by
  simp [Instr.build, run_underlying Try.underlying25, run_zeroValue zr25, run_sizeOf sz3, run_sizeOf sz22, bres, Value.cells]
  generalize Instr.fill _ _ _ = q
  cases q <;> rfl
theorem bd27 (parts : Array (Nat × Value)) (w : World) : (Instr.build 27 parts).run Try.prog w = bres Try.prog (fun i => ([(0, 1), (1, 1), (2, 1)] : List (Nat × Nat)).toArray[i]?) ([.slice none 0 0, .int .i64 0, .int .i64 0] : List Value).toArray parts w := by
  simp [Instr.build, run_underlying Try.underlying27, run_zeroValue zr27, run_sizeOf sz3, run_sizeOf sz22, bres, Value.cells]
  generalize Instr.fill _ _ _ = q
  cases q <;> rfl
theorem cf6 (args : Array Value) (w : World) : (callFunc 6 args).run Try.prog w = .ok (.enter 6 args) w := by kernel_rfl
theorem cf7 (args : Array Value) (w : World) : (callFunc 7 args).run Try.prog w = .ok (.enter 7 args) w := by kernel_rfl
theorem cf8 (args : Array Value) (w : World) : (callFunc 8 args).run Try.prog w = .ok (.enter 8 args) w := by kernel_rfl
theorem cf9 (args : Array Value) (w : World) : (callFunc 9 args).run Try.prog w = .ok (.enter 9 args) w := by kernel_rfl
theorem cf10 (args : Array Value) (w : World) : (callFunc 10 args).run Try.prog w = .ok (.enter 10 args) w := by kernel_rfl
theorem cf11 (args : Array Value) (w : World) : (callFunc 11 args).run Try.prog w = .ok (.enter 11 args) w := by kernel_rfl
theorem cf12 (args : Array Value) (w : World) : (callFunc 12 args).run Try.prog w = .ok (.enter 12 args) w := by kernel_rfl
theorem cf13 (args : Array Value) (w : World) : (callFunc 13 args).run Try.prog w = .ok (.enter 13 args) w := by kernel_rfl
theorem cf14 (args : Array Value) (w : World) : (callFunc 14 args).run Try.prog w = .ok (.enter 14 args) w := by kernel_rfl
theorem cf15 (args : Array Value) (w : World) : (callFunc 15 args).run Try.prog w = .ok (.enter 15 args) w := by kernel_rfl
theorem cf16 (args : Array Value) (w : World) : (callFunc 16 args).run Try.prog w = .ok (.enter 16 args) w := by kernel_rfl
theorem cf17 (args : Array Value) (w : World) : (callFunc 17 args).run Try.prog w = .ok (.enter 17 args) w := by kernel_rfl
theorem cf18 (args : Array Value) (w : World) : (callFunc 18 args).run Try.prog w = .ok (.enter 18 args) w := by kernel_rfl
theorem cf19 (args : Array Value) (w : World) : (callFunc 19 args).run Try.prog w = .ok (.enter 19 args) w := by kernel_rfl
theorem cf20 (args : Array Value) (w : World) : (callFunc 20 args).run Try.prog w = .ok (.enter 20 args) w := by kernel_rfl
theorem cf21 (args : Array Value) (w : World) : (callFunc 21 args).run Try.prog w = .ok (.enter 21 args) w := by kernel_rfl
theorem cf22 (args : Array Value) (w : World) : (callFunc 22 args).run Try.prog w = .ok (.enter 22 args) w := by kernel_rfl
theorem cf23 (args : Array Value) (w : World) : (callFunc 23 args).run Try.prog w = .ok (.enter 23 args) w := by kernel_rfl
theorem cf24 (args : Array Value) (w : World) : (callFunc 24 args).run Try.prog w = .ok (.enter 24 args) w := by kernel_rfl
theorem cf25 (args : Array Value) (w : World) : (callFunc 25 args).run Try.prog w = .ok (.enter 25 args) w := by kernel_rfl
theorem cf26 (args : Array Value) (w : World) : (callFunc 26 args).run Try.prog w = .ok (.enter 26 args) w := by kernel_rfl
theorem cf27 (args : Array Value) (w : World) : (callFunc 27 args).run Try.prog w = .ok (.enter 27 args) w := by kernel_rfl
end Go.Proofs.Ytllcklmbbkafgaa

/- walks, printed by wip/gen -/
import Derived.Test.YtlhcpeolkkadbaaD
namespace Go.Proofs.Ytlhcpeolkkadbaa
open Go.RowKit
set_option linter.unusedVariables false
set_option linter.unusedSimpArgs false

theorem fo59_0 : fieldOffB Try.prog 59 0 = some 0 := by kernel_rfl
theorem fo59_1 : fieldOffB Try.prog 59 1 = some 1 := by kernel_rfl
theorem ag3 : aggB Try.prog 3 = some false := by kernel_rfl
theorem sz3 : sizeB Try.prog 3 = some 1 := by kernel_rfl
theorem zr3 : zeroB Try.prog 3 = some (.int .i64 0) := by kernel_rfl
theorem inf3 : (Try.prog.info? 3).map (fun i => (i.zero, i.size, i.bytes)) = some (some (.int .i64 0), 1, 8) := by kernel_rfl
theorem ag4 : aggB Try.prog 4 = some false := by kernel_rfl
theorem sz4 : sizeB Try.prog 4 = some 1 := by kernel_rfl
theorem zr4 : zeroB Try.prog 4 = some (.bool false) := by kernel_rfl
theorem inf4 : (Try.prog.info? 4).map (fun i => (i.zero, i.size, i.bytes)) = some (some (.bool false), 1, 1) := by kernel_rfl
theorem ag5 : aggB Try.prog 5 = some false := by kernel_rfl
theorem sz5 : sizeB Try.prog 5 = some 1 := by kernel_rfl
theorem zr5 : zeroB Try.prog 5 = some (.int .u8 0) := by kernel_rfl
theorem inf5 : (Try.prog.info? 5).map (fun i => (i.zero, i.size, i.bytes)) = some (some (.int .u8 0), 1, 1) := by kernel_rfl
theorem ag9 : aggB Try.prog 9 = some false := by kernel_rfl
theorem sz9 : sizeB Try.prog 9 = some 1 := by kernel_rfl
theorem zr9 : zeroB Try.prog 9 = some (.string ⟨#[]⟩) := by kernel_rfl
theorem inf9 : (Try.prog.info? 9).map (fun i => (i.zero, i.size, i.bytes)) = some (some (.string ⟨#[]⟩), 1, 16) := by kernel_rfl
theorem ag22 : aggB Try.prog 22 = some false := by kernel_rfl
theorem sz22 : sizeB Try.prog 22 = some 1 := by kernel_rfl
theorem sl22 : sliceB Try.prog 22 = some 59 := by kernel_rfl
theorem zr22 : zeroB Try.prog 22 = some (.slice none 0 0) := by kernel_rfl
theorem inf22 : (Try.prog.info? 22).map (fun i => (i.zero, i.size, i.bytes)) = some (some (.slice none 0 0), 1, 24) := by kernel_rfl
theorem ag24 : aggB Try.prog 24 = some true := by kernel_rfl
theorem sz24 : sizeB Try.prog 24 = some 3 := by kernel_rfl
theorem zr24 : zeroB Try.prog 24 = some (.agg #[.string ⟨#[]⟩, .slice none 0 0, .int .i64 0]) := by kernel_rfl
theorem inf24 : (Try.prog.info? 24).map (fun i => (i.zero, i.size, i.bytes)) = some (some (.agg #[.string ⟨#[]⟩, .slice none 0 0, .int .i64 0]), 3, 48) := by kernel_rfl
theorem ag25 : aggB Try.prog 25 = some false := by kernel_rfl
theorem sz25 : sizeB Try.prog 25 = some 1 := by kernel_rfl
theorem sl25 : sliceB Try.prog 25 = some 3 := by kernel_rfl
theorem zr25 : zeroB Try.prog 25 = some (.slice none 0 0) := by kernel_rfl
theorem inf25 : (Try.prog.info? 25).map (fun i => (i.zero, i.size, i.bytes)) = some (some (.slice none 0 0), 1, 24) := by kernel_rfl
theorem ag26 : aggB Try.prog 26 = some false := by kernel_rfl
theorem sz26 : sizeB Try.prog 26 = some 1 := by kernel_rfl
theorem sl26 : sliceB Try.prog 26 = some 4 := by kernel_rfl
theorem zr26 : zeroB Try.prog 26 = some (.slice none 0 0) := by kernel_rfl
theorem inf26 : (Try.prog.info? 26).map (fun i => (i.zero, i.size, i.bytes)) = some (some (.slice none 0 0), 1, 24) := by kernel_rfl
theorem ag28 : aggB Try.prog 28 = some true := by kernel_rfl
theorem sz28 : sizeB Try.prog 28 = some 2 := by kernel_rfl
theorem zr28 : zeroB Try.prog 28 = some (.agg #[.slice none 0 0, .slice none 0 0]) := by kernel_rfl
theorem inf28 : (Try.prog.info? 28).map (fun i => (i.zero, i.size, i.bytes)) = some (some (.agg #[.slice none 0 0, .slice none 0 0]), 2, 48) := by kernel_rfl
theorem ag52 : aggB Try.prog 52 = some false := by kernel_rfl
theorem sz52 : sizeB Try.prog 52 = some 1 := by kernel_rfl
theorem sl52 : sliceB Try.prog 52 = some 9 := by kernel_rfl
theorem zr52 : zeroB Try.prog 52 = some (.slice none 0 0) := by kernel_rfl
theorem inf52 : (Try.prog.info? 52).map (fun i => (i.zero, i.size, i.bytes)) = some (some (.slice none 0 0), 1, 24) := by kernel_rfl
theorem ag59 : aggB Try.prog 59 = some true := by kernel_rfl
theorem sz59 : sizeB Try.prog 59 = some 2 := by kernel_rfl
theorem zr59 : zeroB Try.prog 59 = some (.agg #[.int .i64 0, .string ⟨#[]⟩]) := by kernel_rfl
theorem inf59 : (Try.prog.info? 59).map (fun i => (i.zero, i.size, i.bytes)) = some (some (.agg #[.int .i64 0, .string ⟨#[]⟩]), 2, 24) := by kernel_rfl
theorem ag64 : aggB Try.prog 64 = some false := by kernel_rfl
theorem sz64 : sizeB Try.prog 64 = some 1 := by kernel_rfl
theorem zr64 : zeroB Try.prog 64 = some (.pointer none) := by kernel_rfl
theorem inf64 : (Try.prog.info? 64).map (fun i => (i.zero, i.size, i.bytes)) = some (some (.pointer none), 1, 8) := by kernel_rfl
theorem ag65 : aggB Try.prog 65 = some false := by kernel_rfl
theorem sz65 : sizeB Try.prog 65 = some 1 := by kernel_rfl
theorem sl65 : sliceB Try.prog 65 = some 5 := by kernel_rfl
theorem zr65 : zeroB Try.prog 65 = some (.slice none 0 0) := by kernel_rfl
theorem inf65 : (Try.prog.info? 65).map (fun i => (i.zero, i.size, i.bytes)) = some (some (.slice none 0 0), 1, 24) := by kernel_rfl
theorem ag67 : aggB Try.prog 67 = some true := by kernel_rfl
theorem sz67 : sizeB Try.prog 67 = some 2 := by kernel_rfl
theorem zr67 : zeroB Try.prog 67 = some (.agg #[.pointer none, .slice none 0 0]) := by kernel_rfl
theorem inf67 : (Try.prog.info? 67).map (fun i => (i.zero, i.size, i.bytes)) = some (some (.agg #[.pointer none, .slice none 0 0]), 2, 32) := by kernel_rfl
theorem ag79 : aggB Try.prog 79 = some false := by kernel_rfl
theorem sz79 : sizeB Try.prog 79 = some 1 := by kernel_rfl
theorem zr79 : zeroB Try.prog 79 = some (.int .u64 0) := by kernel_rfl
theorem inf79 : (Try.prog.info? 79).map (fun i => (i.zero, i.size, i.bytes)) = some (some (.int .u64 0), 1, 8) := by kernel_rfl
theorem bd24 (parts : Array (Nat × Value)) (w : World) : (Instr.build 24 parts).run Try.prog w = bres Try.prog (fun i => ([(0, 1), (1, 1), (2, 1)] : List (Nat × Nat)).toArray[i]?) ([.string ⟨#[]⟩, .slice none 0 0, .int .i64 0] : List Value).toArray parts w := by
  simp [Instr.build, run_underlying Try.underlying24, run_zeroValue zr24, run_sizeOf sz3, run_sizeOf sz9, run_sizeOf sz22, bres, Value.cells]
  generalize Instr.fill _ _ _ = q
  cases q <;> rfl
theorem bd28 (parts : Array (Nat × Value)) (w : World) : (Instr.build 28 parts).run Try.prog w = bres Try.prog (fun i => ([(0, 1), (1, 1)] : List (Nat × Nat)).toArray[i]?) ([.slice none 0 0, .slice none 0 0] : List Value).toArray parts w := by
  simp [Instr.build, run_underlying Try.underlying28, run_zeroValue zr28, run_sizeOf sz25, run_sizeOf sz26, bres, Value.cells]
  generalize Instr.fill _ _ _ = q
  cases q <;> rfl
theorem bd59 (parts : Array (Nat × Value)) (w : World) : (Instr.build 59 parts).run Try.prog w = bres Try.prog (fun i => ([(0, 1), (1, 1)] : List (Nat × Nat)).toArray[i]?) ([.int .i64 0, .string ⟨#[]⟩] : List Value).toArray parts w := by
  simp [Instr.build, run_underlying Try.underlying59, run_zeroValue zr59, run_sizeOf sz3, run_sizeOf sz9, bres, Value.cells]
  generalize Instr.fill _ _ _ = q
  cases q <;> rfl
theorem cf11 (args : Array Value) (w : World) : (callFunc 11 args).run Try.prog w = .ok (.enter 11 args) w := by kernel_rfl
theorem cf12 (args : Array Value) (w : World) : (callFunc 12 args).run Try.prog w = .ok (.enter 12 args) w := by kernel_rfl
theorem cf13 (args : Array Value) (w : World) : (callFunc 13 args).run Try.prog w = .ok (.enter 13 args) w := by kernel_rfl
theorem cf14 (args : Array Value) (w : World) : (callFunc 14 args).run Try.prog w = .ok (.enter 14 args) w := by kernel_rfl
theorem cf15 (args : Array Value) (w : World) : (callFunc 15 args).run Try.prog w = .ok (.enter 15 args) w := by kernel_rfl
theorem cf16 (args : Array Value) (w : World) : (callFunc 16 args).run Try.prog w = .ok (.enter 16 args) w := by kernel_rfl
theorem cf17 (args : Array Value) (w : World) : (callFunc 17 args).run Try.prog w = .ok (.enter 17 args) w := by kernel_rfl
theorem cf18 (args : Array Value) (w : World) : (callFunc 18 args).run Try.prog w = .ok (.enter 18 args) w := by kernel_rfl
theorem cf19 (args : Array Value) (w : World) : (callFunc 19 args).run Try.prog w = .ok (.enter 19 args) w := by kernel_rfl
theorem cf20 (args : Array Value) (w : World) : (callFunc 20 args).run Try.prog w = .ok (.enter 20 args) w := by kernel_rfl
theorem cf21 (args : Array Value) (w : World) : (callFunc 21 args).run Try.prog w = .ok (.enter 21 args) w := by kernel_rfl
theorem cf22 (args : Array Value) (w : World) : (callFunc 22 args).run Try.prog w = .ok (.enter 22 args) w := by kernel_rfl
theorem cf23 (args : Array Value) (w : World) : (callFunc 23 args).run Try.prog w = .ok (.enter 23 args) w := by kernel_rfl
theorem cf24 (args : Array Value) (w : World) : (callFunc 24 args).run Try.prog w = .ok (.enter 24 args) w := by kernel_rfl
theorem cf25 (args : Array Value) (w : World) : (callFunc 25 args).run Try.prog w = .ok (.enter 25 args) w := by kernel_rfl
theorem cf26 (args : Array Value) (w : World) : (callFunc 26 args).run Try.prog w = .ok (.enter 26 args) w := by kernel_rfl
theorem cf27 (args : Array Value) (w : World) : (callFunc 27 args).run Try.prog w = .ok (.enter 27 args) w := by kernel_rfl
theorem cf28 (args : Array Value) (w : World) : (callFunc 28 args).run Try.prog w = .ok (.enter 28 args) w := by kernel_rfl
theorem cf29 (args : Array Value) (w : World) : (callFunc 29 args).run Try.prog w = .ok (.enter 29 args) w := by kernel_rfl
theorem cf30 (args : Array Value) (w : World) : (callFunc 30 args).run Try.prog w = .ok (.enter 30 args) w := by kernel_rfl
theorem cf31 (args : Array Value) (w : World) : (callFunc 31 args).run Try.prog w = .ok (.enter 31 args) w := by kernel_rfl
theorem cf32 (args : Array Value) (w : World) : (callFunc 32 args).run Try.prog w = .ok (.enter 32 args) w := by kernel_rfl
theorem cf33 (args : Array Value) (w : World) : (callFunc 33 args).run Try.prog w = .ok (.enter 33 args) w := by kernel_rfl
theorem cf34 (args : Array Value) (w : World) : (callFunc 34 args).run Try.prog w = .ok (.enter 34 args) w := by kernel_rfl
theorem cf35 (args : Array Value) (w : World) : (callFunc 35 args).run Try.prog w = .ok (.enter 35 args) w := by kernel_rfl
theorem cf36 (args : Array Value) (w : World) : (callFunc 36 args).run Try.prog w = .ok (.enter 36 args) w := by kernel_rfl
theorem cf37 (args : Array Value) (w : World) : (callFunc 37 args).run Try.prog w = .ok (.enter 37 args) w := by kernel_rfl
theorem cf38 (args : Array Value) (w : World) : (callFunc 38 args).run Try.prog w = .ok (.enter 38 args) w := by kernel_rfl
theorem cf39 (args : Array Value) (w : World) : (callFunc 39 args).run Try.prog w = .ok (.enter 39 args) w := by kernel_rfl
theorem cf40 (args : Array Value) (w : World) : (callFunc 40 args).run Try.prog w = .ok (.enter 40 args) w := by kernel_rfl
theorem cf41 (args : Array Value) (w : World) : (callFunc 41 args).run Try.prog w = .ok (.enter 41 args) w := by kernel_rfl
theorem cf42 (args : Array Value) (w : World) : (callFunc 42 args).run Try.prog w = .ok (.enter 42 args) w := by kernel_rfl
theorem cf43 (args : Array Value) (w : World) : (callFunc 43 args).run Try.prog w = .ok (.enter 43 args) w := by kernel_rfl
theorem cf44 (args : Array Value) (w : World) : (callFunc 44 args).run Try.prog w = .ok (.enter 44 args) w := by kernel_rfl
theorem cf45 (args : Array Value) (w : World) : (callFunc 45 args).run Try.prog w = .ok (.enter 45 args) w := by kernel_rfl
theorem cf46 (args : Array Value) (w : World) : (callFunc 46 args).run Try.prog w = .ok (.enter 46 args) w := by kernel_rfl
theorem cf47 (args : Array Value) (w : World) : (callFunc 47 args).run Try.prog w = .ok (.enter 47 args) w := by kernel_rfl
theorem cf48 (args : Array Value) (w : World) : (callFunc 48 args).run Try.prog w = .ok (.enter 48 args) w := by kernel_rfl
theorem cf49 (args : Array Value) (w : World) : (callFunc 49 args).run Try.prog w = .ok (.enter 49 args) w := by kernel_rfl
theorem cf50 (args : Array Value) (w : World) : (callFunc 50 args).run Try.prog w = .ok (.enter 50 args) w := by kernel_rfl
theorem cf51 (args : Array Value) (w : World) : (callFunc 51 args).run Try.prog w = .ok (.enter 51 args) w := by kernel_rfl
theorem cf52 (args : Array Value) (w : World) : (callFunc 52 args).run Try.prog w = .ok (.enter 52 args) w := by kernel_rfl
theorem cf53 (args : Array Value) (w : World) : (callFunc 53 args).run Try.prog w = .ok (.enter 53 args) w := by kernel_rfl
theorem cf54 (args : Array Value) (w : World) : (callFunc 54 args).run Try.prog w = .ok (.enter 54 args) w := by kernel_rfl
theorem cf55 (args : Array Value) (w : World) : (callFunc 55 args).run Try.prog w = .ok (.enter 55 args) w := by kernel_rfl
theorem cf56 (args : Array Value) (w : World) : (callFunc 56 args).run Try.prog w = .ok (.enter 56 args) w := by kernel_rfl
theorem cf57 (args : Array Value) (w : World) : (callFunc 57 args).run Try.prog w = .ok (.enter 57 args) w := by kernel_rfl
theorem cf58 (args : Array Value) (w : World) : (callFunc 58 args).run Try.prog w = .ok (.enter 58 args) w := by kernel_rfl
theorem cf59 (args : Array Value) (w : World) : (callFunc 59 args).run Try.prog w = .ok (.enter 59 args) w := by kernel_rfl
theorem cf60 (args : Array Value) (w : World) : (callFunc 60 args).run Try.prog w = .ok (.enter 60 args) w := by kernel_rfl
theorem cf61 (args : Array Value) (w : World) : (callFunc 61 args).run Try.prog w = .ok (.enter 61 args) w := by kernel_rfl
end Go.Proofs.Ytlhcpeolkkadbaa

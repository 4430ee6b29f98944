/- walks, printed by wip/gen -/
import Derived.Test.YteidhjdkaaddgaaD
namespace Go.Proofs.Yteidhjdkaaddgaa
open Go.RowKit
set_option linter.unusedVariables false
set_option linter.unusedSimpArgs false

theorem fo39_0 : fieldOffB Try.prog 39 0 = some 0 := by kernel_rfl
theorem fo39_1 : fieldOffB Try.prog 39 1 = some 1 := by kernel_rfl
theorem ag3 : aggB Try.prog 3 = some false := by kernel_rfl
theorem sz3 : sizeB Try.prog 3 = some 1 := by kernel_rfl
theorem zr3 : zeroB Try.prog 3 = some (.int .i64 0) := by kernel_rfl
theorem inf3 : (Try.prog.info? 3).map (fun i => (i.zero, i.size, i.bytes)) = some (some (.int .i64 0), 1, 8) := by kernel_rfl
theorem ag5 : aggB Try.prog 5 = some false := by kernel_rfl
theorem sz5 : sizeB Try.prog 5 = some 1 := by kernel_rfl
theorem zr5 : zeroB Try.prog 5 = some (.int .u8 0) := by kernel_rfl
theorem inf5 : (Try.prog.info? 5).map (fun i => (i.zero, i.size, i.bytes)) = some (some (.int .u8 0), 1, 1) := by kernel_rfl
theorem ag9 : aggB Try.prog 9 = some false := by kernel_rfl
theorem sz9 : sizeB Try.prog 9 = some 1 := by kernel_rfl
theorem zr9 : zeroB Try.prog 9 = some (.string ⟨#[]⟩) := by kernel_rfl
theorem inf9 : (Try.prog.info? 9).map (fun i => (i.zero, i.size, i.bytes)) = some (some (.string ⟨#[]⟩), 1, 16) := by kernel_rfl
theorem ag22 : aggB Try.prog 22 = some false := by kernel_rfl
theorem sz22 : sizeB Try.prog 22 = some 1 := by kernel_rfl
theorem sl22 : sliceB Try.prog 22 = some 3 := by kernel_rfl
theorem zr22 : zeroB Try.prog 22 = some (.slice none 0 0) := by kernel_rfl
theorem inf22 : (Try.prog.info? 22).map (fun i => (i.zero, i.size, i.bytes)) = some (some (.slice none 0 0), 1, 24) := by kernel_rfl
theorem ag23 : aggB Try.prog 23 = some false := by kernel_rfl
theorem sz23 : sizeB Try.prog 23 = some 1 := by kernel_rfl
theorem sl23 : sliceB Try.prog 23 = some 39 := by kernel_rfl
theorem zr23 : zeroB Try.prog 23 = some (.slice none 0 0) := by kernel_rfl
theorem inf23 : (Try.prog.info? 23).map (fun i => (i.zero, i.size, i.bytes)) = some (some (.slice none 0 0), 1, 24) := by kernel_rfl
theorem ag25 : aggB Try.prog 25 = some true := by kernel_rfl
theorem sz25 : sizeB Try.prog 25 = some 3 := by kernel_rfl
theorem zr25 : zeroB Try.prog 25 = some (.agg #[.string ⟨#[]⟩, .slice none 0 0, .int .i64 0]) := by kernel_rfl
theorem inf25 : (Try.prog.info? 25).map (fun i => (i.zero, i.size, i.bytes)) = some (some (.agg #[.string ⟨#[]⟩, .slice none 0 0, .int .i64 0]), 3, 48) := by kernel_rfl
theorem ag32 : aggB Try.prog 32 = some false := by kernel_rfl
theorem sz32 : sizeB Try.prog 32 = some 1 := by kernel_rfl
theorem sl32 : sliceB Try.prog 32 = some 9 := by kernel_rfl
theorem zr32 : zeroB Try.prog 32 = some (.slice none 0 0) := by kernel_rfl
theorem inf32 : (Try.prog.info? 32).map (fun i => (i.zero, i.size, i.bytes)) = some (some (.slice none 0 0), 1, 24) := by kernel_rfl
theorem ag39 : aggB Try.prog 39 = some true := by kernel_rfl
theorem sz39 : sizeB Try.prog 39 = some 2 := by kernel_rfl
theorem zr39 : zeroB Try.prog 39 = some (.agg #[.int .i64 0, .string ⟨#[]⟩]) := by kernel_rfl
theorem inf39 : (Try.prog.info? 39).map (fun i => (i.zero, i.size, i.bytes)) = some (some (.agg #[.int .i64 0, .string ⟨#[]⟩]), 2, 24) := by kernel_rfl
theorem ag53 : aggB Try.prog 53 = some false := by kernel_rfl
theorem sz53 : sizeB Try.prog 53 = some 1 := by kernel_rfl
theorem zr53 : zeroB Try.prog 53 = some (.int .u64 0) := by kernel_rfl
theorem inf53 : (Try.prog.info? 53).map (fun i => (i.zero, i.size, i.bytes)) = some (some (.int .u64 0), 1, 8) := by kernel_rfl
theorem ag57 : aggB Try.prog 57 = some true := by kernel_rfl
theorem sz57 : sizeB Try.prog 57 = some 3 := by kernel_rfl
theorem zr57 : zeroB Try.prog 57 = some (.agg #[.string ⟨#[]⟩, .slice none 0 0, .int .i64 0]) := by kernel_rfl
theorem inf57 : (Try.prog.info? 57).map (fun i => (i.zero, i.size, i.bytes)) = some (some (.agg #[.string ⟨#[]⟩, .slice none 0 0, .int .i64 0]), 3, 48) := by kernel_rfl
theorem ag59 : aggB Try.prog 59 = some false := by kernel_rfl
theorem sz59 : sizeB Try.prog 59 = some 1 := by kernel_rfl
theorem sl59 : sliceB Try.prog 59 = some 5 := by kernel_rfl
theorem zr59 : zeroB Try.prog 59 = some (.slice none 0 0) := by kernel_rfl
theorem inf59 : (Try.prog.info? 59).map (fun i => (i.zero, i.size, i.bytes)) = some (some (.slice none 0 0), 1, 24) := by kernel_rfl
theorem ag63 : aggB Try.prog 63 = some false := by kernel_rfl
theorem sz63 : sizeB Try.prog 63 = some 1 := by kernel_rfl
theorem zr63 : zeroB Try.prog 63 = some (.pointer none) := by kernel_rfl
theorem inf63 : (Try.prog.info? 63).map (fun i => (i.zero, i.size, i.bytes)) = some (some (.pointer none), 1, 8) := by kernel_rfl
theorem ag65 : aggB Try.prog 65 = some true := by kernel_rfl
theorem sz65 : sizeB Try.prog 65 = some 2 := by kernel_rfl
theorem zr65 : zeroB Try.prog 65 = some (.agg #[.pointer none, .slice none 0 0]) := by kernel_rfl
theorem inf65 : (Try.prog.info? 65).map (fun i => (i.zero, i.size, i.bytes)) = some (some (.agg #[.pointer none, .slice none 0 0]), 2, 32) := by kernel_rfl
theorem bd25 (parts : Array (Nat × Value)) (w : World) : (Instr.build 25 parts).run Try.prog w = bres Try.prog (fun i => ([(0, 1), (1, 1), (2, 1)] : List (Nat × Nat)).toArray[i]?) ([.string ⟨#[]⟩, .slice none 0 0, .int .i64 0] : List Value).toArray parts w := by
  simp [Instr.build, run_underlying Try.underlying25, run_zeroValue zr25, run_sizeOf sz3, run_sizeOf sz9, run_sizeOf sz23, bres, Value.cells]
  generalize Instr.fill _ _ _ = q
  cases q <;> rfl
theorem bd39 (parts : Array (Nat × Value)) (w : World) : (Instr.build 39 parts).run Try.prog w = bres Try.prog (fun i => ([(0, 1), (1, 1)] : List (Nat × Nat)).toArray[i]?) ([.int .i64 0, .string ⟨#[]⟩] : List Value).toArray parts w := by
  simp [Instr.build, run_underlying Try.underlying39, run_zeroValue zr39, run_sizeOf sz3, run_sizeOf sz9, bres, Value.cells]
  generalize Instr.fill _ _ _ = q
  cases q <;> rfl
theorem bd57 (parts : Array (Nat × Value)) (w : World) : (Instr.build 57 parts).run Try.prog w = bres Try.prog (fun i => ([(0, 3)] : List (Nat × Nat)).toArray[i]?) ([.string ⟨#[]⟩, .slice none 0 0, .int .i64 0] : List Value).toArray parts w := by
  simp [Instr.build, run_underlying Try.underlying57, run_zeroValue zr57, run_sizeOf sz25, bres, Value.cells]
  generalize Instr.fill _ _ _ = q
  cases q <;> rfl
theorem hm39 : Try.prog.eqGuardType Try.prog.depth 39 = false := by kernel_rfl
theorem eqd39 (x0 y0 : Int) (x1 y1 : ByteArray) (d : Nat) (w : World) : (Op.equalIn (d + 2) 39 (.agg #[.int .i64 x0, .string x1]) (.agg #[.int .i64 y0, .string y1])).run Try.prog w = .ok (decide (x0 = y0 ∧ x1 = y1)) w := by
  have hq : (Op.equalIn (d + 2) 39 (.agg #[.int .i64 x0, .string x1]) (.agg #[.int .i64 y0, .string y1])).run Try.prog w = .ok (decide (x0 = y0) && (decide (x1 = y1) && true)) w := by
    refine (run_equalIn_agg _ _ _ _ _ (by kernel_rfl) (by kernel_rfl)).trans ?_
    unfold Program.fieldsOf; rw [Try.underlying39]
    refine eqf_cons (by decide) (part1 ag3 rfl) (part1 ag3 rfl) (eq_i (d := d + 0) Try.underlying3) ?_
    refine eqf_cons (by decide) (part1 ag9 rfl) (part1 ag9 rfl) (eq_s (d := d + 0) Try.underlying9) ?_
    exact eqf_nil
  rw [hq]; simp only [Bool.decide_and, Bool.and_true]
theorem eqs39 (x0 y0 : Int) (x1 y1 : ByteArray) (w : World) : (binOp .eql 39 (.agg #[.int .i64 x0, .string x1]) (.agg #[.int .i64 y0, .string y1])).run Try.prog w = .ok (.bool (decide (x0 = y0 ∧ x1 = y1))) w := by
  rw [run_eql_struct, eqd39 x0 y0 x1 y1 9998]
  rfl
theorem nes39 (x0 y0 : Int) (x1 y1 : ByteArray) (w : World) : (binOp .neq 39 (.agg #[.int .i64 x0, .string x1]) (.agg #[.int .i64 y0, .string y1])).run Try.prog w = .ok (.bool (decide (¬ (x0 = y0 ∧ x1 = y1)))) w := by
  rw [run_neq_struct, eqd39 x0 y0 x1 y1 9998]
  simp only [Result.andThen_ok, decide_not]
theorem cf11 (args : Array Value) (w : World) : (callFunc 11 args).run Try.prog w = .ok (.enter 11 args) w := by kernel_rfl
theorem cf12 (args : Array Value) (w : World) : (callFunc 12 args).run Try.prog w = .ok (.enter 12 args) w := by kernel_rfl
theorem cf13 (args : Array Value) (w : World) : (callFunc 13 args).run Try.prog w = .ok (.enter 13 args) w := by kernel_rfl
theorem cf14 (args : Array Value) (w : World) : (callFunc 14 args).run Try.prog w = .ok (.enter 14 args) w := by kernel_rfl
theorem cf15 (args : Array Value) (w : World) : (callFunc 15 args).run Try.prog w = .ok (.enter 15 args) w := by kernel_rfl
theorem cf16 (args : Array Value) (w : World) : (callFunc 16 args).run Try.prog w = .ok (.enter 16 args) w := by kernel_rfl
theorem cf17 (args : Array Value) (w : World) : (callFunc 17 args).run Try.prog w = .ok (.enter 17 args) w := by kernel_rfl
theorem cf18 (args : Array Value) (w : World) : (callFunc 18 args).run Try.prog w = .ok (.enter 18 args) w := by kernel_rfl
theorem cf19 (args : Array Value) (w : World) : (callFunc 19 args).run Try.prog w = .ok (.enter 19 args) w := by kernel_rfl
theorem cf20 (args : Array Value) (w : World) : (callFunc 20 args).run Try.prog w = .ok (.enter 20 args) w := by kernel_rfl
theorem cf21 (args : Array Value) (w : World) : (callFunc 21 args).run Try.prog w = .ok (.enter 21 args) w := by kernel_rfl
theorem cf22 (args : Array Value) (w : World) : (callFunc 22 args).run Try.prog w = .ok (.enter 22 args) w := by kernel_rfl
theorem cf23 (args : Array Value) (w : World) : (callFunc 23 args).run Try.prog w = .ok (.enter 23 args) w := by kernel_rfl
theorem cf24 (args : Array Value) (w : World) : (callFunc 24 args).run Try.prog w = .ok (.enter 24 args) w := by kernel_rfl
theorem cf25 (args : Array Value) (w : World) : (callFunc 25 args).run Try.prog w = .ok (.enter 25 args) w := by kernel_rfl
theorem cf26 (args : Array Value) (w : World) : (callFunc 26 args).run Try.prog w = .ok (.enter 26 args) w := by kernel_rfl
theorem cf27 (args : Array Value) (w : World) : (callFunc 27 args).run Try.prog w = .ok (.enter 27 args) w := by kernel_rfl
theorem cf28 (args : Array Value) (w : World) : (callFunc 28 args).run Try.prog w = .ok (.enter 28 args) w := by kernel_rfl
theorem cf29 (args : Array Value) (w : World) : (callFunc 29 args).run Try.prog w = .ok (.enter 29 args) w := by kernel_rfl
theorem cf30 (args : Array Value) (w : World) : (callFunc 30 args).run Try.prog w = .ok (.enter 30 args) w := by kernel_rfl
theorem cf31 (args : Array Value) (w : World) : (callFunc 31 args).run Try.prog w = .ok (.enter 31 args) w := by kernel_rfl
theorem cf32 (args : Array Value) (w : World) : (callFunc 32 args).run Try.prog w = .ok (.enter 32 args) w := by kernel_rfl
theorem cf33 (args : Array Value) (w : World) : (callFunc 33 args).run Try.prog w = .ok (.enter 33 args) w := by kernel_rfl
theorem cf34 (args : Array Value) (w : World) : (callFunc 34 args).run Try.prog w = .ok (.enter 34 args) w := by kernel_rfl
theorem cf35 (args : Array Value) (w : World) : (callFunc 35 args).run Try.prog w = .ok (.enter 35 args) w := by kernel_rfl
theorem cf36 (args : Array Value) (w : World) : (callFunc 36 args).run Try.prog w = .ok (.enter 36 args) w := by kernel_rfl
theorem cf37 (args : Array Value) (w : World) : (callFunc 37 args).run Try.prog w = .ok (.enter 37 args) w := by kernel_rfl
theorem cf38 (args : Array Value) (w : World) : (callFunc 38 args).run Try.prog w = .ok (.enter 38 args) w := by kernel_rfl
theorem cf39 (args : Array Value) (w : World) : (callFunc 39 args).run Try.prog w = .ok (.enter 39 args) w := by kernel_rfl
theorem cf40 (args : Array Value) (w : World) : (callFunc 40 args).run Try.prog w = .ok (.enter 40 args) w := by kernel_rfl
theorem cf41 (args : Array Value) (w : World) : (callFunc 41 args).run Try.prog w = .ok (.enter 41 args) w := by kernel_rfl
theorem cf42 (args : Array Value) (w : World) : (callFunc 42 args).run Try.prog w = .ok (.enter 42 args) w := by kernel_rfl
theorem cf43 (args : Array Value) (w : World) : (callFunc 43 args).run Try.prog w = .ok (.enter 43 args) w := by kernel_rfl
theorem cf44 (args : Array Value) (w : World) : (callFunc 44 args).run Try.prog w = .ok (.enter 44 args) w := by kernel_rfl
theorem cf45 (args : Array Value) (w : World) : (callFunc 45 args).run Try.prog w = .ok (.enter 45 args) w := by kernel_rfl
theorem cf46 (args : Array Value) (w : World) : (callFunc 46 args).run Try.prog w = .ok (.enter 46 args) w := by kernel_rfl
theorem cf47 (args : Array Value) (w : World) : (callFunc 47 args).run Try.prog w = .ok (.enter 47 args) w := by kernel_rfl
theorem cf48 (args : Array Value) (w : World) : (callFunc 48 args).run Try.prog w = .ok (.enter 48 args) w := by kernel_rfl
theorem cf49 (args : Array Value) (w : World) : (callFunc 49 args).run Try.prog w = .ok (.enter 49 args) w := by kernel_rfl
theorem cf50 (args : Array Value) (w : World) : (callFunc 50 args).run Try.prog w = .ok (.enter 50 args) w := by kernel_rfl
theorem cf51 (args : Array Value) (w : World) : (callFunc 51 args).run Try.prog w = .ok (.enter 51 args) w := by kernel_rfl
theorem cf52 (args : Array Value) (w : World) : (callFunc 52 args).run Try.prog w = .ok (.enter 52 args) w := by kernel_rfl
theorem cf53 (args : Array Value) (w : World) : (callFunc 53 args).run Try.prog w = .ok (.enter 53 args) w := by kernel_rfl
theorem cf54 (args : Array Value) (w : World) : (callFunc 54 args).run Try.prog w = .ok (.enter 54 args) w := by kernel_rfl
theorem cf55 (args : Array Value) (w : World) : (callFunc 55 args).run Try.prog w = .ok (.enter 55 args) w := by kernel_rfl
theorem cf56 (args : Array Value) (w : World) : (callFunc 56 args).run Try.prog w = .ok (.enter 56 args) w := by kernel_rfl
theorem cf57 (args : Array Value) (w : World) : (callFunc 57 args).run Try.prog w = .ok (.enter 57 args) w := by kernel_rfl
end Go.Proofs.Yteidhjdkaaddgaa

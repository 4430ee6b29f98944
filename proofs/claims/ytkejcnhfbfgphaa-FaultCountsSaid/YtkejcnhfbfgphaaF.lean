/- walks, printed by wip/gen -/
import Derived.Test.YtkejcnhfbfgphaaD
import Derived.Test.YtkejcnhfbfgphaaX
namespace Go.Proofs.Ytkejcnhfbfgphaa
open Go.RowKit
set_option linter.unusedVariables false
set_option linter.unusedSimpArgs false

theorem fo37_3 : fieldOffB Try.prog 37 3 = some 3 := by kernel_rfl
theorem fo37_4 : fieldOffB Try.prog 37 4 = some 4 := by kernel_rfl
theorem fo37_5 : fieldOffB Try.prog 37 5 = some 5 := by kernel_rfl
theorem ag3 : aggB Try.prog 3 = some false := by kernel_rfl
theorem sz3 : sizeB Try.prog 3 = some 1 := by kernel_rfl
theorem zr3 : zeroB Try.prog 3 = some (.int .i64 0) := by kernel_rfl
theorem inf3 : (Try.prog.info? 3).map (fun i => (i.zero, i.size, i.bytes)) = some (some (.int .i64 0), 1, 8) := by kernel_rfl
theorem ag22 : aggB Try.prog 22 = some false := by kernel_rfl
theorem sz22 : sizeB Try.prog 22 = some 1 := by kernel_rfl
theorem sl22 : sliceB Try.prog 22 = some 3 := by kernel_rfl
theorem zr22 : zeroB Try.prog 22 = some (.slice none 0 0) := by kernel_rfl
theorem inf22 : (Try.prog.info? 22).map (fun i => (i.zero, i.size, i.bytes)) = some (some (.slice none 0 0), 1, 24) := by kernel_rfl
theorem ag23 : aggB Try.prog 23 = some false := by kernel_rfl
theorem sz23 : sizeB Try.prog 23 = some 1 := by kernel_rfl
theorem sl23 : sliceB Try.prog 23 = some 37 := by kernel_rfl
theorem zr23 : zeroB Try.prog 23 = some (.slice none 0 0) := by kernel_rfl
theorem inf23 : (Try.prog.info? 23).map (fun i => (i.zero, i.size, i.bytes)) = some (some (.slice none 0 0), 1, 24) := by kernel_rfl
theorem ag25 : aggB Try.prog 25 = some false := by kernel_rfl
theorem sz25 : sizeB Try.prog 25 = some 1 := by kernel_rfl
theorem zr25 : zeroB Try.prog 25 = some (.int .i64 0) := by kernel_rfl
theorem inf25 : (Try.prog.info? 25).map (fun i => (i.zero, i.size, i.bytes)) = some (some (.int .i64 0), 1, 8) := by kernel_rfl
theorem ag27 : aggB Try.prog 27 = some true := by kernel_rfl
theorem sz27 : sizeB Try.prog 27 = some 4 := by kernel_rfl
theorem zr27 : zeroB Try.prog 27 = some (.agg #[.int .i64 0, .int .i64 0, .bool false, .int .i64 0]) := by kernel_rfl
theorem inf27 : (Try.prog.info? 27).map (fun i => (i.zero, i.size, i.bytes)) = some (some (.agg #[.int .i64 0, .int .i64 0, .bool false, .int .i64 0]), 4, 32) := by kernel_rfl
theorem ag37 : aggB Try.prog 37 = some true := by kernel_rfl
theorem sz37 : sizeB Try.prog 37 = some 9 := by kernel_rfl
theorem zr37 : zeroB Try.prog 37 = some (.agg #[.int .i64 0, .int .i64 0, .int .i64 0, .int .i64 0, .int .i64 0, .int .i64 0, .int .i64 0, .bool false, .int .i64 0]) := by kernel_rfl
theorem inf37 : (Try.prog.info? 37).map (fun i => (i.zero, i.size, i.bytes)) = some (some (.agg #[.int .i64 0, .int .i64 0, .int .i64 0, .int .i64 0, .int .i64 0, .int .i64 0, .int .i64 0, .bool false, .int .i64 0]), 9, 72) := by kernel_rfl
theorem ag62 : aggB Try.prog 62 = some false := by kernel_rfl
theorem sz62 : sizeB Try.prog 62 = some 1 := by kernel_rfl
theorem zr62 : zeroB Try.prog 62 = some (.int .u64 0) := by kernel_rfl
theorem inf62 : (Try.prog.info? 62).map (fun i => (i.zero, i.size, i.bytes)) = some (some (.int .u64 0), 1, 8) := by kernel_rfl
theorem ag64 : aggB Try.prog 64 = some false := by kernel_rfl
theorem sz64 : sizeB Try.prog 64 = some 1 := by kernel_rfl
theorem sl64 : sliceB Try.prog 64 = some 25 := by kernel_rfl
theorem zr64 : zeroB Try.prog 64 = some (.slice none 0 0) := by kernel_rfl
theorem inf64 : (Try.prog.info? 64).map (fun i => (i.zero, i.size, i.bytes)) = some (some (.slice none 0 0), 1, 24) := by kernel_rfl
theorem sz4 : sizeB Try.prog 4 = some 1 := by kernel_rfl
theorem bd27 (parts : Array (Nat × Value)) (w : World) : (Instr.build 27 parts).run Try.prog w = bres Try.prog (fun i => ([(0, 1), (1, 1), (2, 1), (3, 1)] : List (Nat × Nat)).toArray[i]?) ([.int .i64 0, .int .i64 0, .bool false, .int .i64 0] : List Value).toArray parts w := by
  simp [Instr.build, run_underlying Try.underlying27, run_zeroValue zr27, run_sizeOf sz3, run_sizeOf sz4, run_sizeOf sz25, bres, Value.cells]
  generalize Instr.fill _ _ _ = q
  cases q <;> rfl
theorem bd37 (parts : Array (Nat × Value)) (w : World) : (Instr.build 37 parts).run Try.prog w = bres Try.prog (fun i => ([(0, 1), (1, 1), (2, 1), (3, 1), (4, 1), (5, 4)] : List (Nat × Nat)).toArray[i]?) ([.int .i64 0, .int .i64 0, .int .i64 0, .int .i64 0, .int .i64 0, .int .i64 0, .int .i64 0, .bool false, .int .i64 0] : List Value).toArray parts w := by
  simp [Instr.build, run_underlying Try.underlying37, run_zeroValue zr37, run_sizeOf sz3, run_sizeOf sz27, bres, Value.cells]
  generalize Instr.fill _ _ _ = q
  cases q <;> rfl
theorem hm27 : Try.prog.eqGuardType Try.prog.depth 27 = false := by kernel_rfl
theorem ag4 : aggB Try.prog 4 = some false := by kernel_rfl
theorem eqd27 (x0 y0 : Int) (x1 y1 : Int) (x2 y2 : Bool) (x3 y3 : Int) (d : Nat) (w : World) : (Op.equalIn (d + 2) 27 (.agg #[.int .i64 x0, .int .i64 x1, .bool x2, .int .i64 x3]) (.agg #[.int .i64 y0, .int .i64 y1, .bool y2, .int .i64 y3])).run Try.prog w = .ok (decide (x0 = y0 ∧ x1 = y1 ∧ x2 = y2 ∧ x3 = y3)) w := by
  have hq : (Op.equalIn (d + 2) 27 (.agg #[.int .i64 x0, .int .i64 x1, .bool x2, .int .i64 x3]) (.agg #[.int .i64 y0, .int .i64 y1, .bool y2, .int .i64 y3])).run Try.prog w = .ok (decide (x0 = y0) && (decide (x1 = y1) && (decide (x2 = y2) && (decide (x3 = y3) && true)))) w := by
    refine (run_equalIn_agg _ _ _ _ _ (by kernel_rfl) (by kernel_rfl)).trans ?_
    unfold Program.fieldsOf; rw [Try.underlying27]
    refine eqf_cons (by decide) (part1 ag25 rfl) (part1 ag25 rfl) (eq_i (d := d + 0) Try.underlying25) ?_
    refine eqf_cons (by decide) (part1 ag3 rfl) (part1 ag3 rfl) (eq_i (d := d + 0) Try.underlying3) ?_
    refine eqf_cons (by decide) (part1 ag4 rfl) (part1 ag4 rfl) (eq_b (d := d + 0) Try.underlying4) ?_
    refine eqf_cons (by decide) (part1 ag3 rfl) (part1 ag3 rfl) (eq_i (d := d + 0) Try.underlying3) ?_
    exact eqf_nil
  rw [hq]; simp only [Bool.decide_and, Bool.and_true]
theorem eqs27 (x0 y0 : Int) (x1 y1 : Int) (x2 y2 : Bool) (x3 y3 : Int) (w : World) : (binOp .eql 27 (.agg #[.int .i64 x0, .int .i64 x1, .bool x2, .int .i64 x3]) (.agg #[.int .i64 y0, .int .i64 y1, .bool y2, .int .i64 y3])).run Try.prog w = .ok (.bool (decide (x0 = y0 ∧ x1 = y1 ∧ x2 = y2 ∧ x3 = y3))) w := by
  rw [run_eql_struct, eqd27 x0 y0 x1 y1 x2 y2 x3 y3 9998]
  rfl
theorem nes27 (x0 y0 : Int) (x1 y1 : Int) (x2 y2 : Bool) (x3 y3 : Int) (w : World) : (binOp .neq 27 (.agg #[.int .i64 x0, .int .i64 x1, .bool x2, .int .i64 x3]) (.agg #[.int .i64 y0, .int .i64 y1, .bool y2, .int .i64 y3])).run Try.prog w = .ok (.bool (decide (¬ (x0 = y0 ∧ x1 = y1 ∧ x2 = y2 ∧ x3 = y3)))) w := by
  rw [run_neq_struct, eqd27 x0 y0 x1 y1 x2 y2 x3 y3 9998]
  simp only [Result.andThen_ok, decide_not]
theorem hm37 : Try.prog.eqGuardType Try.prog.depth 37 = false := by kernel_rfl
theorem eqd37 (x0 y0 : Int) (x1 y1 : Int) (x2 y2 : Int) (x3 y3 : Int) (x4 y4 : Int) (x5 y5 : Int) (x6 y6 : Int) (x7 y7 : Bool) (x8 y8 : Int) (d : Nat) (w : World) : (Op.equalIn (d + 3) 37 (.agg #[.int .i64 x0, .int .i64 x1, .int .i64 x2, .int .i64 x3, .int .i64 x4, .int .i64 x5, .int .i64 x6, .bool x7, .int .i64 x8]) (.agg #[.int .i64 y0, .int .i64 y1, .int .i64 y2, .int .i64 y3, .int .i64 y4, .int .i64 y5, .int .i64 y6, .bool y7, .int .i64 y8])).run Try.prog w = .ok (decide (x0 = y0 ∧ x1 = y1 ∧ x2 = y2 ∧ x3 = y3 ∧ x4 = y4 ∧ x5 = y5 ∧ x6 = y6 ∧ x7 = y7 ∧ x8 = y8)) w := by
  have hq : (Op.equalIn (d + 3) 37 (.agg #[.int .i64 x0, .int .i64 x1, .int .i64 x2, .int .i64 x3, .int .i64 x4, .int .i64 x5, .int .i64 x6, .bool x7, .int .i64 x8]) (.agg #[.int .i64 y0, .int .i64 y1, .int .i64 y2, .int .i64 y3, .int .i64 y4, .int .i64 y5, .int .i64 y6, .bool y7, .int .i64 y8])).run Try.prog w = .ok (decide (x0 = y0) && (decide (x1 = y1) && (decide (x2 = y2) && (decide (x3 = y3) && (decide (x4 = y4) && (decide (x5 = y5 ∧ x6 = y6 ∧ x7 = y7 ∧ x8 = y8) && true)))))) w := by
    refine (run_equalIn_agg _ _ _ _ _ (by kernel_rfl) (by kernel_rfl)).trans ?_
    unfold Program.fieldsOf; rw [Try.underlying37]
    refine eqf_cons (by decide) (part1 ag3 rfl) (part1 ag3 rfl) (eq_i (d := d + 1) Try.underlying3) ?_
    refine eqf_cons (by decide) (part1 ag3 rfl) (part1 ag3 rfl) (eq_i (d := d + 1) Try.underlying3) ?_
    refine eqf_cons (by decide) (part1 ag3 rfl) (part1 ag3 rfl) (eq_i (d := d + 1) Try.underlying3) ?_
    refine eqf_cons (by decide) (part1 ag3 rfl) (part1 ag3 rfl) (eq_i (d := d + 1) Try.underlying3) ?_
    refine eqf_cons (by decide) (part1 ag3 rfl) (part1 ag3 rfl) (eq_i (d := d + 1) Try.underlying3) ?_
    refine eqf_cons (by decide) (partN ag27 sz27 rfl) (partN ag27 sz27 rfl) (eqd27 x5 y5 x6 y6 x7 y7 x8 y8 (d + 0) w) ?_
    exact eqf_nil
  rw [hq]; simp only [Bool.decide_and, Bool.and_true]
theorem eqs37 (x0 y0 : Int) (x1 y1 : Int) (x2 y2 : Int) (x3 y3 : Int) (x4 y4 : Int) (x5 y5 : Int) (x6 y6 : Int) (x7 y7 : Bool) (x8 y8 : Int) (w : World) : (binOp .eql 37 (.agg #[.int .i64 x0, .int .i64 x1, .int .i64 x2, .int .i64 x3, .int .i64 x4, .int .i64 x5, .int .i64 x6, .bool x7, .int .i64 x8]) (.agg #[.int .i64 y0, .int .i64 y1, .int .i64 y2, .int .i64 y3, .int .i64 y4, .int .i64 y5, .int .i64 y6, .bool y7, .int .i64 y8])).run Try.prog w = .ok (.bool (decide (x0 = y0 ∧ x1 = y1 ∧ x2 = y2 ∧ x3 = y3 ∧ x4 = y4 ∧ x5 = y5 ∧ x6 = y6 ∧ x7 = y7 ∧ x8 = y8))) w := by
  rw [run_eql_struct, eqd37 x0 y0 x1 y1 x2 y2 x3 y3 x4 y4 x5 y5 x6 y6 x7 y7 x8 y8 9997]
  rfl
theorem nes37 (x0 y0 : Int) (x1 y1 : Int) (x2 y2 : Int) (x3 y3 : Int) (x4 y4 : Int) (x5 y5 : Int) (x6 y6 : Int) (x7 y7 : Bool) (x8 y8 : Int) (w : World) : (binOp .neq 37 (.agg #[.int .i64 x0, .int .i64 x1, .int .i64 x2, .int .i64 x3, .int .i64 x4, .int .i64 x5, .int .i64 x6, .bool x7, .int .i64 x8]) (.agg #[.int .i64 y0, .int .i64 y1, .int .i64 y2, .int .i64 y3, .int .i64 y4, .int .i64 y5, .int .i64 y6, .bool y7, .int .i64 y8])).run Try.prog w = .ok (.bool (decide (¬ (x0 = y0 ∧ x1 = y1 ∧ x2 = y2 ∧ x3 = y3 ∧ x4 = y4 ∧ x5 = y5 ∧ x6 = y6 ∧ x7 = y7 ∧ x8 = y8)))) w := by
  rw [run_neq_struct, eqd37 x0 y0 x1 y1 x2 y2 x3 y3 x4 y4 x5 y5 x6 y6 x7 y7 x8 y8 9997]
  simp only [Result.andThen_ok, decide_not]
theorem cf11 (args : Array Value) (w : World) : (callFunc 11 args).run Try.prog w = .ok (.enter 11 args) w := by kernel_rfl
theorem cf12 (args : Array Value) (w : World) : (callFunc 12 args).run Try.prog w = .ok (.enter 12 args) w := by kernel_rfl
theorem cf13 (args : Array Value) (w : World) : (callFunc 13 args).run Try.prog w = .ok (.enter 13 args) w := by kernel_rfl
theorem cf14 (args : Array Value) (w : World) : (callFunc 14 args).run Try.prog w = .ok (.enter 14 args) w := by kernel_rfl
theorem cf15 (args : Array Value) (w : World) : (callFunc 15 args).run Try.prog w = .ok (.enter 15 args) w := by kernel_rfl
theorem cf16 (args : Array Value) (w : World) : (callFunc 16 args).run Try.prog w = .ok (.enter 16 args) w := by kernel_rfl
theorem cf17 (args : Array Value) (w : World) : (callFunc 17 args).run Try.prog w = .ok (.enter 17 args) w := by kernel_rfl
theorem cf18 (args : Array Value) (w : World) : (callFunc 18 args).run Try.prog w = .ok (.enter 18 args) w := by kernel_rfl
theorem cf19 (args : Array Value) (w : World) : (callFunc 19 args).run Try.prog w = .ok (.enter 19 args) w := by kernel_rfl
theorem cf23 (args : Array Value) (w : World) : (callFunc 23 args).run Try.prog w = .ok (.enter 23 args) w := by kernel_rfl
theorem cf24 (args : Array Value) (w : World) : (callFunc 24 args).run Try.prog w = .ok (.enter 24 args) w := by kernel_rfl
theorem cf25 (args : Array Value) (w : World) : (callFunc 25 args).run Try.prog w = .ok (.enter 25 args) w := by kernel_rfl
theorem cf26 (args : Array Value) (w : World) : (callFunc 26 args).run Try.prog w = .ok (.enter 26 args) w := by kernel_rfl
theorem cf33 (args : Array Value) (w : World) : (callFunc 33 args).run Try.prog w = .ok (.enter 33 args) w := by kernel_rfl
theorem cf34 (args : Array Value) (w : World) : (callFunc 34 args).run Try.prog w = .ok (.enter 34 args) w := by kernel_rfl
theorem cf35 (args : Array Value) (w : World) : (callFunc 35 args).run Try.prog w = .ok (.enter 35 args) w := by kernel_rfl
theorem cf36 (args : Array Value) (w : World) : (callFunc 36 args).run Try.prog w = .ok (.enter 36 args) w := by kernel_rfl
theorem cf37 (args : Array Value) (w : World) : (callFunc 37 args).run Try.prog w = .ok (.enter 37 args) w := by kernel_rfl
theorem cf45 (args : Array Value) (w : World) : (callFunc 45 args).run Try.prog w = .ok (.enter 45 args) w := by kernel_rfl
theorem cf50 (args : Array Value) (w : World) : (callFunc 50 args).run Try.prog w = .ok (.enter 50 args) w := by kernel_rfl
theorem cf51 (args : Array Value) (w : World) : (callFunc 51 args).run Try.prog w = .ok (.enter 51 args) w := by kernel_rfl
theorem cf52 (args : Array Value) (w : World) : (callFunc 52 args).run Try.prog w = .ok (.enter 52 args) w := by kernel_rfl
theorem cf53 (args : Array Value) (w : World) : (callFunc 53 args).run Try.prog w = .ok (.enter 53 args) w := by kernel_rfl
theorem cf54 (args : Array Value) (w : World) : (callFunc 54 args).run Try.prog w = .ok (.enter 54 args) w := by kernel_rfl
theorem cf58 (args : Array Value) (w : World) : (callFunc 58 args).run Try.prog w = .ok (.enter 58 args) w := by kernel_rfl
theorem cf59 (args : Array Value) (w : World) : (callFunc 59 args).run Try.prog w = .ok (.enter 59 args) w := by kernel_rfl
end Go.Proofs.Ytkejcnhfbfgphaa

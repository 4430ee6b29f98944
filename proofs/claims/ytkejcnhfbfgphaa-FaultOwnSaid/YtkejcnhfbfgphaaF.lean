/- walks, printed by wip/gen -/
import Derived.Test.YtkejcnhfbfgphaaD
import Derived.Test.YtkejcnhfbfgphaaX
namespace Go.Proofs.Ytkejcnhfbfgphaa
open Go.RowKit
set_option linter.unusedVariables false
set_option linter.unusedSimpArgs false

theorem fo37_3 : fieldOffB Try.prog 37 3 = some 3 := by kernel_rfl
theorem fo37_4 : fieldOffB Try.prog 37 4 = some 4 := by kernel_rfl
theorem fo37_5 : fieldOffB Try.prog 37 5 = some 5 := by kernel_rfl
theorem fo67_0 : fieldOffB Try.prog 67 0 = some 0 := by kernel_rfl
theorem fo67_1 : fieldOffB Try.prog 67 1 = some 1 := by kernel_rfl
theorem ag3 : aggB Try.prog 3 = some false := by kernel_rfl
theorem sz3 : sizeB Try.prog 3 = some 1 := by kernel_rfl
theorem zr3 : zeroB Try.prog 3 = some (.int .i64 0) := by kernel_rfl
theorem inf3 : (Try.prog.info? 3).map (fun i => (i.zero, i.size, i.bytes)) = some (some (.int .i64 0), 1, 8) := by kernel_rfl
theorem ag4 : aggB Try.prog 4 = some false := by kernel_rfl
theorem sz4 : sizeB Try.prog 4 = some 1 := by kernel_rfl
theorem zr4 : zeroB Try.prog 4 = some (.bool false) := by kernel_rfl
theorem inf4 : (Try.prog.info? 4).map (fun i => (i.zero, i.size, i.bytes)) = some (some (.bool false), 1, 1) := by kernel_rfl
theorem ag5 : aggB Try.prog 5 = some false := by kernel_rfl
theorem sz5 : sizeB Try.prog 5 = some 1 := by kernel_rfl
theorem zr5 : zeroB Try.prog 5 = some (.int .u8 0) := by kernel_rfl
theorem inf5 : (Try.prog.info? 5).map (fun i => (i.zero, i.size, i.bytes)) = some (some (.int .u8 0), 1, 1) := by kernel_rfl
theorem ag9 : aggB Try.prog 9 = some false := by kernel_rfl
theorem sz9 : sizeB Try.prog 9 = some 1 := by kernel_rfl
theorem zr9 : zeroB Try.prog 9 = some (.string ⟨#[]⟩) := by kernel_rfl
theorem inf9 : (Try.prog.info? 9).map (fun i => (i.zero, i.size, i.bytes)) = some (some (.string ⟨#[]⟩), 1, 16) := by kernel_rfl
theorem ag22 : aggB Try.prog 22 = some false := by kernel_rfl
theorem sz22 : sizeB Try.prog 22 = some 1 := by kernel_rfl
theorem sl22 : sliceB Try.prog 22 = some 3 := by kernel_rfl
theorem zr22 : zeroB Try.prog 22 = some (.slice none 0 0) := by kernel_rfl
theorem inf22 : (Try.prog.info? 22).map (fun i => (i.zero, i.size, i.bytes)) = some (some (.slice none 0 0), 1, 24) := by kernel_rfl
theorem ag23 : aggB Try.prog 23 = some false := by kernel_rfl
theorem sz23 : sizeB Try.prog 23 = some 1 := by kernel_rfl
theorem sl23 : sliceB Try.prog 23 = some 37 := by kernel_rfl
theorem zr23 : zeroB Try.prog 23 = some (.slice none 0 0) := by kernel_rfl
theorem inf23 : (Try.prog.info? 23).map (fun i => (i.zero, i.size, i.bytes)) = some (some (.slice none 0 0), 1, 24) := by kernel_rfl
theorem ag25 : aggB Try.prog 25 = some false := by kernel_rfl
theorem sz25 : sizeB Try.prog 25 = some 1 := by kernel_rfl
theorem zr25 : zeroB Try.prog 25 = some (.int .i64 0) := by kernel_rfl
theorem inf25 : (Try.prog.info? 25).map (fun i => (i.zero, i.size, i.bytes)) = some (some (.int .i64 0), 1, 8) := by kernel_rfl
theorem ag27 : aggB Try.prog 27 = some true := by kernel_rfl
theorem sz27 : sizeB Try.prog 27 = some 4 := by kernel_rfl
theorem zr27 : zeroB Try.prog 27 = some (.agg #[.int .i64 0, .int .i64 0, .bool false, .int .i64 0]) := by kernel_rfl
theorem inf27 : (Try.prog.info? 27).map (fun i => (i.zero, i.size, i.bytes)) = some (some (.agg #[.int .i64 0, .int .i64 0, .bool false, .int .i64 0]), 4, 32) := by kernel_rfl
theorem ag37 : aggB Try.prog 37 = some true := by kernel_rfl
theorem sz37 : sizeB Try.prog 37 = some 9 := by kernel_rfl
theorem zr37 : zeroB Try.prog 37 = some (.agg #[.int .i64 0, .int .i64 0, .int .i64 0, .int .i64 0, .int .i64 0, .int .i64 0, .int .i64 0, .bool false, .int .i64 0]) := by kernel_rfl
theorem inf37 : (Try.prog.info? 37).map (fun i => (i.zero, i.size, i.bytes)) = some (some (.agg #[.int .i64 0, .int .i64 0, .int .i64 0, .int .i64 0, .int .i64 0, .int .i64 0, .int .i64 0, .bool false, .int .i64 0]), 9, 72) := by kernel_rfl
theorem ag41 : aggB Try.prog 41 = some false := by kernel_rfl
theorem sz41 : sizeB Try.prog 41 = some 1 := by kernel_rfl
theorem sl41 : sliceB Try.prog 41 = some 67 := by kernel_rfl
theorem zr41 : zeroB Try.prog 41 = some (.slice none 0 0) := by kernel_rfl
theorem inf41 : (Try.prog.info? 41).map (fun i => (i.zero, i.size, i.bytes)) = some (some (.slice none 0 0), 1, 24) := by kernel_rfl
theorem ag43 : aggB Try.prog 43 = some true := by kernel_rfl
theorem sz43 : sizeB Try.prog 43 = some 3 := by kernel_rfl
theorem zr43 : zeroB Try.prog 43 = some (.agg #[.string ⟨#[]⟩, .slice none 0 0, .int .i64 0]) := by kernel_rfl
theorem inf43 : (Try.prog.info? 43).map (fun i => (i.zero, i.size, i.bytes)) = some (some (.agg #[.string ⟨#[]⟩, .slice none 0 0, .int .i64 0]), 3, 48) := by kernel_rfl
theorem ag45 : aggB Try.prog 45 = some true := by kernel_rfl
theorem sz45 : sizeB Try.prog 45 = some 12 := by kernel_rfl
theorem zr45 : zeroB Try.prog 45 = some (.agg #[.int .i64 0, .int .i64 0, .int .i64 0, .int .i64 0, .string ⟨#[]⟩, .bool false, .int .i64 0, .int .i64 0, .int .i64 0, .int .i64 0, .bool false, .int .i64 0]) := by kernel_rfl
theorem inf45 : (Try.prog.info? 45).map (fun i => (i.zero, i.size, i.bytes)) = some (some (.agg #[.int .i64 0, .int .i64 0, .int .i64 0, .int .i64 0, .string ⟨#[]⟩, .bool false, .int .i64 0, .int .i64 0, .int .i64 0, .int .i64 0, .bool false, .int .i64 0]), 12, 104) := by kernel_rfl
theorem ag62 : aggB Try.prog 62 = some false := by kernel_rfl
theorem sz62 : sizeB Try.prog 62 = some 1 := by kernel_rfl
theorem zr62 : zeroB Try.prog 62 = some (.int .u64 0) := by kernel_rfl
theorem inf62 : (Try.prog.info? 62).map (fun i => (i.zero, i.size, i.bytes)) = some (some (.int .u64 0), 1, 8) := by kernel_rfl
theorem ag64 : aggB Try.prog 64 = some false := by kernel_rfl
theorem sz64 : sizeB Try.prog 64 = some 1 := by kernel_rfl
theorem sl64 : sliceB Try.prog 64 = some 25 := by kernel_rfl
theorem zr64 : zeroB Try.prog 64 = some (.slice none 0 0) := by kernel_rfl
theorem inf64 : (Try.prog.info? 64).map (fun i => (i.zero, i.size, i.bytes)) = some (some (.slice none 0 0), 1, 24) := by kernel_rfl
theorem ag67 : aggB Try.prog 67 = some true := by kernel_rfl
theorem sz67 : sizeB Try.prog 67 = some 2 := by kernel_rfl
theorem zr67 : zeroB Try.prog 67 = some (.agg #[.int .i64 0, .string ⟨#[]⟩]) := by kernel_rfl
theorem inf67 : (Try.prog.info? 67).map (fun i => (i.zero, i.size, i.bytes)) = some (some (.agg #[.int .i64 0, .string ⟨#[]⟩]), 2, 24) := by kernel_rfl
theorem ag76 : aggB Try.prog 76 = some false := by kernel_rfl
theorem sz76 : sizeB Try.prog 76 = some 1 := by kernel_rfl
theorem sl76 : sliceB Try.prog 76 = some 9 := by kernel_rfl
theorem zr76 : zeroB Try.prog 76 = some (.slice none 0 0) := by kernel_rfl
theorem inf76 : (Try.prog.info? 76).map (fun i => (i.zero, i.size, i.bytes)) = some (some (.slice none 0 0), 1, 24) := by kernel_rfl
theorem ag82 : aggB Try.prog 82 = some false := by kernel_rfl
theorem sz82 : sizeB Try.prog 82 = some 1 := by kernel_rfl
theorem zr82 : zeroB Try.prog 82 = some (.pointer none) := by kernel_rfl
theorem inf82 : (Try.prog.info? 82).map (fun i => (i.zero, i.size, i.bytes)) = some (some (.pointer none), 1, 8) := by kernel_rfl
theorem ag83 : aggB Try.prog 83 = some false := by kernel_rfl
theorem sz83 : sizeB Try.prog 83 = some 1 := by kernel_rfl
theorem sl83 : sliceB Try.prog 83 = some 5 := by kernel_rfl
theorem zr83 : zeroB Try.prog 83 = some (.slice none 0 0) := by kernel_rfl
theorem inf83 : (Try.prog.info? 83).map (fun i => (i.zero, i.size, i.bytes)) = some (some (.slice none 0 0), 1, 24) := by kernel_rfl
theorem ag85 : aggB Try.prog 85 = some true := by kernel_rfl
theorem sz85 : sizeB Try.prog 85 = some 2 := by kernel_rfl
theorem zr85 : zeroB Try.prog 85 = some (.agg #[.pointer none, .slice none 0 0]) := by kernel_rfl
theorem inf85 : (Try.prog.info? 85).map (fun i => (i.zero, i.size, i.bytes)) = some (some (.agg #[.pointer none, .slice none 0 0]), 2, 32) := by kernel_rfl
theorem ag93 : aggB Try.prog 93 = some true := by kernel_rfl
theorem sz93 : sizeB Try.prog 93 = some 3 := by kernel_rfl
theorem zr93 : zeroB Try.prog 93 = some (.agg #[.string ⟨#[]⟩, .slice none 0 0, .int .i64 0]) := by kernel_rfl
theorem inf93 : (Try.prog.info? 93).map (fun i => (i.zero, i.size, i.bytes)) = some (some (.agg #[.string ⟨#[]⟩, .slice none 0 0, .int .i64 0]), 3, 48) := by kernel_rfl
theorem bd27 (parts : Array (Nat × Value)) (w : World) : (Instr.build 27 parts).run Try.prog w = bres Try.prog (fun i => ([(0, 1), (1, 1), (2, 1), (3, 1)] : List (Nat × Nat)).toArray[i]?) ([.int .i64 0, .int .i64 0, .bool false, .int .i64 0] : List Value).toArray parts w := by
  simp [Instr.build, run_underlying Try.underlying27, run_zeroValue zr27, run_sizeOf sz3, run_sizeOf sz4, run_sizeOf sz25, bres, Value.cells]
  generalize Instr.fill _ _ _ = q
  cases q <;> rfl
theorem bd37 (parts : Array (Nat × Value)) (w : World) : (Instr.build 37 parts).run Try.prog w = bres Try.prog (fun i => ([(0, 1), (1, 1), (2, 1), (3, 1), (4, 1), (5, 4)] : List (Nat × Nat)).toArray[i]?) ([.int .i64 0, .int .i64 0, .int .i64 0, .int .i64 0, .int .i64 0, .int .i64 0, .int .i64 0, .bool false, .int .i64 0] : List Value).toArray parts w := by
  simp [Instr.build, run_underlying Try.underlying37, run_zeroValue zr37, run_sizeOf sz3, run_sizeOf sz27, bres, Value.cells]
  generalize Instr.fill _ _ _ = q
  cases q <;> rfl
theorem bd43 (parts : Array (Nat × Value)) (w : World) : (Instr.build 43 parts).run Try.prog w = bres Try.prog (fun i => ([(0, 1), (1, 1), (2, 1)] : List (Nat × Nat)).toArray[i]?) ([.string ⟨#[]⟩, .slice none 0 0, .int .i64 0] : List Value).toArray parts w := by
  simp [Instr.build, run_underlying Try.underlying43, run_zeroValue zr43, run_sizeOf sz3, run_sizeOf sz9, run_sizeOf sz41, bres, Value.cells]
  generalize Instr.fill _ _ _ = q
  cases q <;> rfl
theorem bd45 (parts : Array (Nat × Value)) (w : World) : (Instr.build 45 parts).run Try.prog w = bres Try.prog (fun i => ([(0, 1), (1, 1), (2, 1), (3, 1), (4, 1), (5, 1), (6, 1), (7, 1), (8, 4)] : List (Nat × Nat)).toArray[i]?) ([.int .i64 0, .int .i64 0, .int .i64 0, .int .i64 0, .string ⟨#[]⟩, .bool false, .int .i64 0, .int .i64 0, .int .i64 0, .int .i64 0, .bool false, .int .i64 0] : List Value).toArray parts w := by
  simp [Instr.build, run_underlying Try.underlying45, run_zeroValue zr45, run_sizeOf sz3, run_sizeOf sz4, run_sizeOf sz9, run_sizeOf sz27, bres, Value.cells]
  generalize Instr.fill _ _ _ = q
  cases q <;> rfl
theorem bd67 (parts : Array (Nat × Value)) (w : World) : (Instr.build 67 parts).run Try.prog w = bres Try.prog (fun i => ([(0, 1), (1, 1)] : List (Nat × Nat)).toArray[i]?) ([.int .i64 0, .string ⟨#[]⟩] : List Value).toArray parts w := by
  simp [Instr.build, run_underlying Try.underlying67, run_zeroValue zr67, run_sizeOf sz3, run_sizeOf sz9, bres, Value.cells]
  generalize Instr.fill _ _ _ = q
  cases q <;> rfl
theorem bd93 (parts : Array (Nat × Value)) (w : World) : (Instr.build 93 parts).run Try.prog w = bres Try.prog (fun i => ([(0, 3)] : List (Nat × Nat)).toArray[i]?) ([.string ⟨#[]⟩, .slice none 0 0, .int .i64 0] : List Value).toArray parts w := by
  simp [Instr.build, run_underlying Try.underlying93, run_zeroValue zr93, run_sizeOf sz43, bres, Value.cells]
  generalize Instr.fill _ _ _ = q
  cases q <;> rfl
theorem hm27 : Try.prog.eqGuardType Try.prog.depth 27 = false := by kernel_rfl
theorem eqd27 (x0 y0 : Int) (x1 y1 : Int) (x2 y2 : Bool) (x3 y3 : Int) (d : Nat) (w : World) : (Op.equalIn (d + 2) 27 (.agg #[.int .i64 x0, .int .i64 x1, .bool x2, .int .i64 x3]) (.agg #[.int .i64 y0, .int .i64 y1, .bool y2, .int .i64 y3])).run Try.prog w = .ok (decide (x0 = y0 ∧ x1 = y1 ∧ x2 = y2 ∧ x3 = y3)) w := by
  have hq : (Op.equalIn (d + 2) 27 (.agg #[.int .i64 x0, .int .i64 x1, .bool x2, .int .i64 x3]) (.agg #[.int .i64 y0, .int .i64 y1, .bool y2, .int .i64 y3])).run Try.prog w = .ok (decide (x0 = y0) && (decide (x1 = y1) && (decide (x2 = y2) && (decide (x3 = y3) && true)))) w := by
    refine (run_equalIn_agg _ _ _ _ _ (by kernel_rfl) (by kernel_rfl)).trans ?_
    unfold Program.fieldsOf; rw [Try.underlying27]
    refine eqf_cons (by decide) (part1 ag25 rfl) (part1 ag25 rfl) (eq_i (d := d + 0) Try.underlying25) ?_
    refine eqf_cons (by decide) (part1 ag3 rfl) (part1 ag3 rfl) (eq_i (d := d + 0) Try.underlying3) ?_
    refine eqf_cons (by decide) (part1 ag4 rfl) (part1 ag4 rfl) (eq_b (d := d + 0) Try.underlying4) ?_
    refine eqf_cons (by decide) (part1 ag3 rfl) (part1 ag3 rfl) (eq_i (d := d + 0) Try.underlying3) ?_
    exact eqf_nil
  rw [hq]; simp only [Bool.decide_and, Bool.and_true]
theorem eqs27 (x0 y0 : Int) (x1 y1 : Int) (x2 y2 : Bool) (x3 y3 : Int) (w : World) : (binOp .eql 27 (.agg #[.int .i64 x0, .int .i64 x1, .bool x2, .int .i64 x3]) (.agg #[.int .i64 y0, .int .i64 y1, .bool y2, .int .i64 y3])).run Try.prog w = .ok (.bool (decide (x0 = y0 ∧ x1 = y1 ∧ x2 = y2 ∧ x3 = y3))) w := by
  rw [run_eql_struct, eqd27 x0 y0 x1 y1 x2 y2 x3 y3 9998]
  rfl
theorem nes27 (x0 y0 : Int) (x1 y1 : Int) (x2 y2 : Bool) (x3 y3 : Int) (w : World) : (binOp .neq 27 (.agg #[.int .i64 x0, .int .i64 x1, .bool x2, .int .i64 x3]) (.agg #[.int .i64 y0, .int .i64 y1, .bool y2, .int .i64 y3])).run Try.prog w = .ok (.bool (decide (¬ (x0 = y0 ∧ x1 = y1 ∧ x2 = y2 ∧ x3 = y3)))) w := by
  rw [run_neq_struct, eqd27 x0 y0 x1 y1 x2 y2 x3 y3 9998]
  simp only [Result.andThen_ok, decide_not]
theorem hm37 : Try.prog.eqGuardType Try.prog.depth 37 = false := by kernel_rfl
theorem eqd37 (x0 y0 : Int) (x1 y1 : Int) (x2 y2 : Int) (x3 y3 : Int) (x4 y4 : Int) (x5 y5 : Int) (x6 y6 : Int) (x7 y7 : Bool) (x8 y8 : Int) (d : Nat) (w : World) : (Op.equalIn (d + 3) 37 (.agg #[.int .i64 x0, .int .i64 x1, .int .i64 x2, .int .i64 x3, .int .i64 x4, .int .i64 x5, .int .i64 x6, .bool x7, .int .i64 x8]) (.agg #[.int .i64 y0, .int .i64 y1, .int .i64 y2, .int .i64 y3, .int .i64 y4, .int .i64 y5, .int .i64 y6, .bool y7, .int .i64 y8])).run Try.prog w = .ok (decide (x0 = y0 ∧ x1 = y1 ∧ x2 = y2 ∧ x3 = y3 ∧ x4 = y4 ∧ x5 = y5 ∧ x6 = y6 ∧ x7 = y7 ∧ x8 = y8)) w := by
  have hq : (Op.equalIn (d + 3) 37 (.agg #[.int .i64 x0, .int .i64 x1, .int .i64 x2, .int .i64 x3, .int .i64 x4, .int .i64 x5, .int .i64 x6, .bool x7, .int .i64 x8]) (.agg #[.int .i64 y0, .int .i64 y1, .int .i64 y2, .int .i64 y3, .int .i64 y4, .int .i64 y5, .int .i64 y6, .bool y7, .int .i64 y8])).run Try.prog w = .ok (decide (x0 = y0) && (decide (x1 = y1) && (decide (x2 = y2) && (decide (x3 = y3) && (decide (x4 = y4) && (decide (x5 = y5 ∧ x6 = y6 ∧ x7 = y7 ∧ x8 = y8) && true)))))) w := by
    refine (run_equalIn_agg _ _ _ _ _ (by kernel_rfl) (by kernel_rfl)).trans ?_
    unfold Program.fieldsOf; rw [Try.underlying37]
    refine eqf_cons (by decide) (part1 ag3 rfl) (part1 ag3 rfl) (eq_i (d := d + 1) Try.underlying3) ?_
    refine eqf_cons (by decide) (part1 ag3 rfl) (part1 ag3 rfl) (eq_i (d := d + 1) Try.underlying3) ?_
    refine eqf_cons (by decide) (part1 ag3 rfl) (part1 ag3 rfl) (eq_i (d := d + 1) Try.underlying3) ?_
    refine eqf_cons (by decide) (part1 ag3 rfl) (part1 ag3 rfl) (eq_i (d := d + 1) Try.underlying3) ?_
    refine eqf_cons (by decide) (part1 ag3 rfl) (part1 ag3 rfl) (eq_i (d := d + 1) Try.underlying3) ?_
    refine eqf_cons (by decide) (partN ag27 sz27 rfl) (partN ag27 sz27 rfl) (eqd27 x5 y5 x6 y6 x7 y7 x8 y8 (d + 0) w) ?_
    exact eqf_nil
  rw [hq]; simp only [Bool.decide_and, Bool.and_true]
theorem eqs37 (x0 y0 : Int) (x1 y1 : Int) (x2 y2 : Int) (x3 y3 : Int) (x4 y4 : Int) (x5 y5 : Int) (x6 y6 : Int) (x7 y7 : Bool) (x8 y8 : Int) (w : World) : (binOp .eql 37 (.agg #[.int .i64 x0, .int .i64 x1, .int .i64 x2, .int .i64 x3, .int .i64 x4, .int .i64 x5, .int .i64 x6, .bool x7, .int .i64 x8]) (.agg #[.int .i64 y0, .int .i64 y1, .int .i64 y2, .int .i64 y3, .int .i64 y4, .int .i64 y5, .int .i64 y6, .bool y7, .int .i64 y8])).run Try.prog w = .ok (.bool (decide (x0 = y0 ∧ x1 = y1 ∧ x2 = y2 ∧ x3 = y3 ∧ x4 = y4 ∧ x5 = y5 ∧ x6 = y6 ∧ x7 = y7 ∧ x8 = y8))) w := by
  rw [run_eql_struct, eqd37 x0 y0 x1 y1 x2 y2 x3 y3 x4 y4 x5 y5 x6 y6 x7 y7 x8 y8 9997]
  rfl
theorem nes37 (x0 y0 : Int) (x1 y1 : Int) (x2 y2 : Int) (x3 y3 : Int) (x4 y4 : Int) (x5 y5 : Int) (x6 y6 : Int) (x7 y7 : Bool) (x8 y8 : Int) (w : World) : (binOp .neq 37 (.agg #[.int .i64 x0, .int .i64 x1, .int .i64 x2, .int .i64 x3, .int .i64 x4, .int .i64 x5, .int .i64 x6, .bool x7, .int .i64 x8]) (.agg #[.int .i64 y0, .int .i64 y1, .int .i64 y2, .int .i64 y3, .int .i64 y4, .int .i64 y5, .int .i64 y6, .bool y7, .int .i64 y8])).run Try.prog w = .ok (.bool (decide (¬ (x0 = y0 ∧ x1 = y1 ∧ x2 = y2 ∧ x3 = y3 ∧ x4 = y4 ∧ x5 = y5 ∧ x6 = y6 ∧ x7 = y7 ∧ x8 = y8)))) w := by
  rw [run_neq_struct, eqd37 x0 y0 x1 y1 x2 y2 x3 y3 x4 y4 x5 y5 x6 y6 x7 y7 x8 y8 9997]
  simp only [Result.andThen_ok, decide_not]
theorem hm67 : Try.prog.eqGuardType Try.prog.depth 67 = false := by kernel_rfl
theorem eqd67 (x0 y0 : Int) (x1 y1 : ByteArray) (d : Nat) (w : World) : (Op.equalIn (d + 2) 67 (.agg #[.int .i64 x0, .string x1]) (.agg #[.int .i64 y0, .string y1])).run Try.prog w = .ok (decide (x0 = y0 ∧ x1 = y1)) w := by
  have hq : (Op.equalIn (d + 2) 67 (.agg #[.int .i64 x0, .string x1]) (.agg #[.int .i64 y0, .string y1])).run Try.prog w = .ok (decide (x0 = y0) && (decide (x1 = y1) && true)) w := by
    refine (run_equalIn_agg _ _ _ _ _ (by kernel_rfl) (by kernel_rfl)).trans ?_
    unfold Program.fieldsOf; rw [Try.underlying67]
    refine eqf_cons (by decide) (part1 ag3 rfl) (part1 ag3 rfl) (eq_i (d := d + 0) Try.underlying3) ?_
    refine eqf_cons (by decide) (part1 ag9 rfl) (part1 ag9 rfl) (eq_s (d := d + 0) Try.underlying9) ?_
    exact eqf_nil
  rw [hq]; simp only [Bool.decide_and, Bool.and_true]
theorem eqs67 (x0 y0 : Int) (x1 y1 : ByteArray) (w : World) : (binOp .eql 67 (.agg #[.int .i64 x0, .string x1]) (.agg #[.int .i64 y0, .string y1])).run Try.prog w = .ok (.bool (decide (x0 = y0 ∧ x1 = y1))) w := by
  rw [run_eql_struct, eqd67 x0 y0 x1 y1 9998]
  rfl
theorem nes67 (x0 y0 : Int) (x1 y1 : ByteArray) (w : World) : (binOp .neq 67 (.agg #[.int .i64 x0, .string x1]) (.agg #[.int .i64 y0, .string y1])).run Try.prog w = .ok (.bool (decide (¬ (x0 = y0 ∧ x1 = y1)))) w := by
  rw [run_neq_struct, eqd67 x0 y0 x1 y1 9998]
  simp only [Result.andThen_ok, decide_not]
theorem cf11 (args : Array Value) (w : World) : (callFunc 11 args).run Try.prog w = .ok (.enter 11 args) w := by kernel_rfl
theorem cf12 (args : Array Value) (w : World) : (callFunc 12 args).run Try.prog w = .ok (.enter 12 args) w := by kernel_rfl
theorem cf13 (args : Array Value) (w : World) : (callFunc 13 args).run Try.prog w = .ok (.enter 13 args) w := by kernel_rfl
theorem cf14 (args : Array Value) (w : World) : (callFunc 14 args).run Try.prog w = .ok (.enter 14 args) w := by kernel_rfl
theorem cf15 (args : Array Value) (w : World) : (callFunc 15 args).run Try.prog w = .ok (.enter 15 args) w := by kernel_rfl
theorem cf16 (args : Array Value) (w : World) : (callFunc 16 args).run Try.prog w = .ok (.enter 16 args) w := by kernel_rfl
theorem cf17 (args : Array Value) (w : World) : (callFunc 17 args).run Try.prog w = .ok (.enter 17 args) w := by kernel_rfl
theorem cf18 (args : Array Value) (w : World) : (callFunc 18 args).run Try.prog w = .ok (.enter 18 args) w := by kernel_rfl
theorem cf19 (args : Array Value) (w : World) : (callFunc 19 args).run Try.prog w = .ok (.enter 19 args) w := by kernel_rfl
theorem cf20 (args : Array Value) (w : World) : (callFunc 20 args).run Try.prog w = .ok (.enter 20 args) w := by kernel_rfl
theorem cf21 (args : Array Value) (w : World) : (callFunc 21 args).run Try.prog w = .ok (.enter 21 args) w := by kernel_rfl
theorem cf22 (args : Array Value) (w : World) : (callFunc 22 args).run Try.prog w = .ok (.enter 22 args) w := by kernel_rfl
theorem cf23 (args : Array Value) (w : World) : (callFunc 23 args).run Try.prog w = .ok (.enter 23 args) w := by kernel_rfl
theorem cf24 (args : Array Value) (w : World) : (callFunc 24 args).run Try.prog w = .ok (.enter 24 args) w := by kernel_rfl
theorem cf25 (args : Array Value) (w : World) : (callFunc 25 args).run Try.prog w = .ok (.enter 25 args) w := by kernel_rfl
theorem cf26 (args : Array Value) (w : World) : (callFunc 26 args).run Try.prog w = .ok (.enter 26 args) w := by kernel_rfl
theorem cf27 (args : Array Value) (w : World) : (callFunc 27 args).run Try.prog w = .ok (.enter 27 args) w := by kernel_rfl
theorem cf28 (args : Array Value) (w : World) : (callFunc 28 args).run Try.prog w = .ok (.enter 28 args) w := by kernel_rfl
theorem cf29 (args : Array Value) (w : World) : (callFunc 29 args).run Try.prog w = .ok (.enter 29 args) w := by kernel_rfl
theorem cf30 (args : Array Value) (w : World) : (callFunc 30 args).run Try.prog w = .ok (.enter 30 args) w := by kernel_rfl
theorem cf31 (args : Array Value) (w : World) : (callFunc 31 args).run Try.prog w = .ok (.enter 31 args) w := by kernel_rfl
theorem cf32 (args : Array Value) (w : World) : (callFunc 32 args).run Try.prog w = .ok (.enter 32 args) w := by kernel_rfl
theorem cf33 (args : Array Value) (w : World) : (callFunc 33 args).run Try.prog w = .ok (.enter 33 args) w := by kernel_rfl
theorem cf34 (args : Array Value) (w : World) : (callFunc 34 args).run Try.prog w = .ok (.enter 34 args) w := by kernel_rfl
theorem cf35 (args : Array Value) (w : World) : (callFunc 35 args).run Try.prog w = .ok (.enter 35 args) w := by kernel_rfl
theorem cf36 (args : Array Value) (w : World) : (callFunc 36 args).run Try.prog w = .ok (.enter 36 args) w := by kernel_rfl
theorem cf37 (args : Array Value) (w : World) : (callFunc 37 args).run Try.prog w = .ok (.enter 37 args) w := by kernel_rfl
theorem cf38 (args : Array Value) (w : World) : (callFunc 38 args).run Try.prog w = .ok (.enter 38 args) w := by kernel_rfl
theorem cf39 (args : Array Value) (w : World) : (callFunc 39 args).run Try.prog w = .ok (.enter 39 args) w := by kernel_rfl
theorem cf40 (args : Array Value) (w : World) : (callFunc 40 args).run Try.prog w = .ok (.enter 40 args) w := by kernel_rfl
theorem cf41 (args : Array Value) (w : World) : (callFunc 41 args).run Try.prog w = .ok (.enter 41 args) w := by kernel_rfl
theorem cf42 (args : Array Value) (w : World) : (callFunc 42 args).run Try.prog w = .ok (.enter 42 args) w := by kernel_rfl
theorem cf43 (args : Array Value) (w : World) : (callFunc 43 args).run Try.prog w = .ok (.enter 43 args) w := by kernel_rfl
theorem cf44 (args : Array Value) (w : World) : (callFunc 44 args).run Try.prog w = .ok (.enter 44 args) w := by kernel_rfl
theorem cf45 (args : Array Value) (w : World) : (callFunc 45 args).run Try.prog w = .ok (.enter 45 args) w := by kernel_rfl
theorem cf46 (args : Array Value) (w : World) : (callFunc 46 args).run Try.prog w = .ok (.enter 46 args) w := by kernel_rfl
theorem cf47 (args : Array Value) (w : World) : (callFunc 47 args).run Try.prog w = .ok (.enter 47 args) w := by kernel_rfl
theorem cf48 (args : Array Value) (w : World) : (callFunc 48 args).run Try.prog w = .ok (.enter 48 args) w := by kernel_rfl
theorem cf49 (args : Array Value) (w : World) : (callFunc 49 args).run Try.prog w = .ok (.enter 49 args) w := by kernel_rfl
theorem cf50 (args : Array Value) (w : World) : (callFunc 50 args).run Try.prog w = .ok (.enter 50 args) w := by kernel_rfl
theorem cf51 (args : Array Value) (w : World) : (callFunc 51 args).run Try.prog w = .ok (.enter 51 args) w := by kernel_rfl
theorem cf52 (args : Array Value) (w : World) : (callFunc 52 args).run Try.prog w = .ok (.enter 52 args) w := by kernel_rfl
theorem cf53 (args : Array Value) (w : World) : (callFunc 53 args).run Try.prog w = .ok (.enter 53 args) w := by kernel_rfl
theorem cf54 (args : Array Value) (w : World) : (callFunc 54 args).run Try.prog w = .ok (.enter 54 args) w := by kernel_rfl
theorem cf55 (args : Array Value) (w : World) : (callFunc 55 args).run Try.prog w = .ok (.enter 55 args) w := by kernel_rfl
theorem cf56 (args : Array Value) (w : World) : (callFunc 56 args).run Try.prog w = .ok (.enter 56 args) w := by kernel_rfl
theorem cf57 (args : Array Value) (w : World) : (callFunc 57 args).run Try.prog w = .ok (.enter 57 args) w := by kernel_rfl
theorem cf58 (args : Array Value) (w : World) : (callFunc 58 args).run Try.prog w = .ok (.enter 58 args) w := by kernel_rfl
theorem cf59 (args : Array Value) (w : World) : (callFunc 59 args).run Try.prog w = .ok (.enter 59 args) w := by kernel_rfl
theorem cf60 (args : Array Value) (w : World) : (callFunc 60 args).run Try.prog w = .ok (.enter 60 args) w := by kernel_rfl
theorem cf61 (args : Array Value) (w : World) : (callFunc 61 args).run Try.prog w = .ok (.enter 61 args) w := by kernel_rfl
theorem cf62 (args : Array Value) (w : World) : (callFunc 62 args).run Try.prog w = .ok (.enter 62 args) w := by kernel_rfl
theorem cf63 (args : Array Value) (w : World) : (callFunc 63 args).run Try.prog w = .ok (.enter 63 args) w := by kernel_rfl
theorem cf64 (args : Array Value) (w : World) : (callFunc 64 args).run Try.prog w = .ok (.enter 64 args) w := by kernel_rfl
theorem cf65 (args : Array Value) (w : World) : (callFunc 65 args).run Try.prog w = .ok (.enter 65 args) w := by kernel_rfl
theorem cf66 (args : Array Value) (w : World) : (callFunc 66 args).run Try.prog w = .ok (.enter 66 args) w := by kernel_rfl
theorem cf67 (args : Array Value) (w : World) : (callFunc 67 args).run Try.prog w = .ok (.enter 67 args) w := by kernel_rfl
theorem cf68 (args : Array Value) (w : World) : (callFunc 68 args).run Try.prog w = .ok (.enter 68 args) w := by kernel_rfl
theorem cf69 (args : Array Value) (w : World) : (callFunc 69 args).run Try.prog w = .ok (.enter 69 args) w := by kernel_rfl
theorem cf70 (args : Array Value) (w : World) : (callFunc 70 args).run Try.prog w = .ok (.enter 70 args) w := by kernel_rfl
theorem cf71 (args : Array Value) (w : World) : (callFunc 71 args).run Try.prog w = .ok (.enter 71 args) w := by kernel_rfl
theorem cf72 (args : Array Value) (w : World) : (callFunc 72 args).run Try.prog w = .ok (.enter 72 args) w := by kernel_rfl
theorem cf73 (args : Array Value) (w : World) : (callFunc 73 args).run Try.prog w = .ok (.enter 73 args) w := by kernel_rfl
theorem cf74 (args : Array Value) (w : World) : (callFunc 74 args).run Try.prog w = .ok (.enter 74 args) w := by kernel_rfl
theorem cf75 (args : Array Value) (w : World) : (callFunc 75 args).run Try.prog w = .ok (.enter 75 args) w := by kernel_rfl
theorem cf76 (args : Array Value) (w : World) : (callFunc 76 args).run Try.prog w = .ok (.enter 76 args) w := by kernel_rfl
theorem cf77 (args : Array Value) (w : World) : (callFunc 77 args).run Try.prog w = .ok (.enter 77 args) w := by kernel_rfl
theorem cf78 (args : Array Value) (w : World) : (callFunc 78 args).run Try.prog w = .ok (.enter 78 args) w := by kernel_rfl
theorem cf79 (args : Array Value) (w : World) : (callFunc 79 args).run Try.prog w = .ok (.enter 79 args) w := by kernel_rfl
theorem cf80 (args : Array Value) (w : World) : (callFunc 80 args).run Try.prog w = .ok (.enter 80 args) w := by kernel_rfl
theorem cf81 (args : Array Value) (w : World) : (callFunc 81 args).run Try.prog w = .ok (.enter 81 args) w := by kernel_rfl
theorem cf82 (args : Array Value) (w : World) : (callFunc 82 args).run Try.prog w = .ok (.enter 82 args) w := by kernel_rfl
theorem cf83 (args : Array Value) (w : World) : (callFunc 83 args).run Try.prog w = .ok (.enter 83 args) w := by kernel_rfl
theorem cf85 (args : Array Value) (w : World) : (callFunc 85 args).run Try.prog w = .ok (.enter 85 args) w := by kernel_rfl
section
variable {P : Program} {S : World → Prop} {n : Nat} {a : Act} {σ : List (Nat × Value)} {o : Oper} {ops : Array Oper} {rest : List Oper} {Q : Exit → Act → World → Prop} {w : World} {c x y : Operand} {u v : Value}
theorem pkF (hF : Fr n a σ) (ho : o.op = .pick c x y) (hc : opv σ c = some (.bool false)) (hy : opv σ y = some u) : Yl P S a o u := yl_pick (v := undef) hF ho hc (fun h => by cases h) (fun _ => hy)
theorem pkT (hF : Fr n a σ) (ho : o.op = .pick c x y) (hc : opv σ c = some (.bool true)) (hx : opv σ x = some u) : Yl P S a o u := yl_pick (v := undef) hF ho hc (fun _ => hx) (fun h => by cases h)
theorem mvN (hF : Fr n a σ) (hg : o.guard = none) {d : Nat} (hd : o.dst = some d) (hn : Nat.blt d n = true) (ho : o.op = .move x) (hx : opv σ x = some v) (h : ∀ a', Fr n a' ((d, v) :: σ) → wpList P ops Q rest a' w) : wpList P ops Q (o :: rest) a w := seq_yl hF (wn_none hg) hd hn (yl_move hF ho hx) h
theorem asN (hF : Fr n a σ) (hg : o.guard = none) {d : Nat} (hd : o.dst = some d) (hn : Nat.blt d n = true) (ho : o.op = .assign x) (hx : opv σ x = some v) (h : ∀ a', Fr n a' ((d, v) :: σ) → wpList P ops Q rest a' w) : wpList P ops Q (o :: rest) a w := seq_yl hF (wn_none hg) hd hn (yl_assign hF ho hx) h
theorem skF (hF : Fr n a σ) {j e : Nat} {want : Bool} {oj : Oper} (hg : o.guard = some (j, want)) (hj : ops[j]? = some oj) (he : oj.dst = some e) (hv : look σ e = some (.bool (!want))) {d : Nat} (hd : o.dst = some d) (hn : Nat.blt d n = true) (h : ∀ a', Fr n a' ((d, undef) :: σ) → wpList P ops Q rest a' w) : wpList P ops Q (o :: rest) a w := seq_skip hF (wn_f hF hg hj he hv) hd hn h
end
end Go.Proofs.Ytkejcnhfbfgphaa

/- More operations: conversions, remainders, strings, elements of arrays; the walk of Round. -/
import Derived.Test.YtffaminjbcfojaaS
namespace Go.Proofs.Ytffaminjbcfojaa
open Go.RowKit
set_option linter.unusedVariables false

section
variable {P : Program} {t : TypeId} {x y : Int} {w : World} {kd : IntKind}
theorem run_cnv {s d : TypeId} {k k' : IntKind} {u : TypeDesc} (hs : P.underlying s = some u) (hd : P.underlying d = some (.int k')) : (convert s d (.int k x)).run P w = .ok (.int k' (k'.wrap x)) w := by
  have e : P.intKind d = k' := by simp [Program.intKind, hd]
  have := run_convert_int (P := P) w s d k x (by rw [hs]; rfl) (by rw [e]; exact hd)
  rwa [e] at this
theorem run_dec {k c : Nat} (h : c ≤ k) (hk : k < 9223372036854775807) : (binOp .sub t (.int .i64 (k : Int)) (.int .i64 (c : Int))).run P w = .ok (.int .i64 ((k - c : Nat) : Int)) w := by
  rw [run_sub ⟨by omega, by omega⟩]; congr 2; omega
theorem run_rem (h : y ≠ 0) : (binOp .rem t (.int kd x) (.int kd y)).run P w = .ok (.int kd (x.tmod y)) w := by
  rw [binOp_rem]; unfold Op.intDiv; rw [if_neg h]; rfl
theorem run_quo (h : y ≠ 0) : (binOp .quo t (.int kd x) (.int kd y)).run P w = .ok (.int kd (kd.wrap (x.tdiv y))) w := by
  rw [binOp_quo]; unfold Op.intDiv; rw [if_neg h]; rfl
theorem wrap_u64 : IntKind.u64.wrap x = x % 18446744073709551616 := by simp [IntKind.wrap, IntKind.signed, IntKind.bits]
theorem wrap_u64_in (h : 0 ≤ x) (h2 : x < 18446744073709551616) : IntKind.u64.wrap x = x := by rw [wrap_u64]; omega
theorem round_eq {n m : Int} (h : ¬ m < 1) (h2 : m ≤ 9223372036854775807) : IntKind.i64.wrap ((IntKind.u64.wrap n).tmod (IntKind.u64.wrap m)) = rnd n m := by
  rw [wrap_u64_in (x := m) (by omega) (by omega), wrap_u64]
  unfold rnd
  rw [if_neg h, Int.tmod_eq_emod_of_nonneg (by omega)]
  have h1 := Int.emod_nonneg (n % 18446744073709551616) (b := m) (by omega)
  have h3 := Int.emod_lt_of_pos (n % 18446744073709551616) (b := m) (by omega)
  exact wrap_in ⟨by omega, by omega⟩
theorem run_max {ts : Array TypeId} : (Builtin.max_ ts t #[.int kd x, .int kd y]).run P w = .ok (.int kd (max x y)) w := by
  have e : (if y > x then y else x) = max x y := by
    rw [Int.max_def]
    split <;> split <;> omega
  simp [Builtin.max_, Builtin.max2, e]
theorem run_min {ts : Array TypeId} : (Builtin.min_ ts t #[.int kd x, .int kd y]).run P w = .ok (.int kd (min x y)) w := by
  have e : (if y < x then y else x) = min x y := by
    rw [Int.min_def]
    split <;> split <;> omega
  simp [Builtin.min_, Builtin.min2, e]
theorem run_lenStr {ty : TypeId} {s : ByteArray} (ht : P.underlying t = some .string) : (Builtin.len_ #[t] ty #[.string s]).run P w = .ok (.int .i64 ((s.size : Nat) : Int)) w := by
  simp [Builtin.len_, run_underlying ht, goInt]
theorem str_beq (a b : ByteArray) : (a.toList == b.toList) = decide (a = b) := by
  by_cases h : a = b
  · subst h; simp
  · rw [decide_eq_false h, beq_eq_false_iff_ne]
    intro e; rw [ByteArray.toList_eq, ByteArray.toList_eq] at e
    exact h (ByteArray.ext (Array.ext' e))
theorem run_str_eql {a b : ByteArray} : (binOp .eql t (.string a) (.string b)).run P w = .ok (.bool (decide (a = b))) w := by rw [← str_beq]; simp [binOp, Op.stringOp]
theorem run_str_neq {a b : ByteArray} : (binOp .neq t (.string a) (.string b)).run P w = .ok (.bool (decide (a ≠ b))) w := by
  have : decide (a ≠ b) = !(a.toList == b.toList) := by rw [str_beq]; by_cases h : a = b <;> simp [h]
  rw [this]; simp [binOp, Op.stringOp]
end
theorem fr_seti {n : Nat} {a : Act} {σ : List (Nat × Value)} {d : Nat} {kd : IntKind} {b b' : Int} (hF : Fr n a ((d, .int kd b) :: σ)) (h : b = b') : Fr n a ((d, .int kd b') :: σ) := h ▸ hF
end Go.Proofs.Ytffaminjbcfojaa

/- CrashAgrees: whatever the lists, the call returns true. No condition. -/
import Derived.Test.YtlhcpeolkkadbaaQ
import Derived.Test.YtlhcpeolkkadbaaWt
namespace Go.Proofs.Ytlhcpeolkkadbaa
open Go.ChangeShapes Go.WideShapes Go.ChangeAt Go.RowKit
set_option linter.unusedVariables false

theorem Try_own : ownKnob Try.prog.godebug = none := by kernel_rfl
theorem Try_laid : laidOutB Try.prog = true := by kernel_rfl
set_option maxRecDepth 100000 in
theorem crashAgrees_lifted (os : Os) (started : os.Started) (H : Type) (enc : TypeId × Value → H) :
    ReturnsInHanded {} Try.checked os 5 .any (Rows.crashAgreesSpec.pre6 enc Try.prog Try.f5 Rows.crashAgreesRow.domain false) (Rows.crashAgreesSpec.post enc Try.prog Try.f5 false true false false) := by
  refine returnsInHanded_of_change (C := Try.checked) Try_own started (by kernel_rfl) Try.func5
    (ChangeSpec.witness6 (enc := enc) (C := Try.checked) false ⟨#[], #[.slice none 0 0, .slice none 0 0, .slice none 0 0], []⟩ 8 (by kernel_rfl) (by kernel_rfl) (by kernel_rfl) (by kernel_rfl)) ?_
  intro W base args ds gs before hval0 hW hcnd _
  have hval : ∀ (j : Nat) t v, Try.f5.params[j]? = some t → args[j]? = some v → Value.okWide Try.prog W .any base t v := hval0
  have hW' := hW
  obtain ⟨p, q, hA0, hV, rfl, hfz, hnd⟩ := hW
  have r0 : DataW.TrodAll enc Try.prog W 0 (fun _ => true) true Try.f5.params.toList args.toList ds p := hA0
  rw [Try.params5] at r0 hval
  obtain ⟨v0, vs0, d0, ds0, p0, q0, hargs, rfl, rfl, h0, r1⟩ := trodAll_cons r0
  obtain ⟨v1, vs1, d1, ds1, p1, q1, rfl, rfl, rfl, h1, r2⟩ := trodAll_cons r1
  obtain ⟨v2, vs2, d2, ds2, p2, q2, rfl, rfl, rfl, h2, r3⟩ := trodAll_cons r2
  obtain ⟨rfl, rfl, rfl⟩ := trodAll_nil r3
  obtain rfl : args = #[v0, v1, v2] := by cases args; simp_all
  obtain ⟨rfl, rfl⟩ := trodVars_none hV
  obtain ⟨Lx0, Rx0, Ix0, Mx0⟩ : ∃ L : List Int, Rd W 1 v0 L.length (cells encI L) ∧ (∀ x ∈ L, i64 x) ∧ L.length ≤ maxLen := by
    obtain ⟨aa, ll, cc, rfl⟩ := okWide_slice Try.underlying25 (hval 0 25 v0 rfl rfl); obtain ⟨fuel, hf⟩ := h0; exact f_ints Try.underlying25 Try.underlying3 (by kernel_rfl) hf
  obtain ⟨Lx1, Rx1, Ix1, Mx1⟩ : ∃ L : List Int, Rd W 1 v1 L.length (cells encI L) ∧ (∀ x ∈ L, i64 x) ∧ L.length ≤ maxLen := by
    obtain ⟨aa, ll, cc, rfl⟩ := okWide_slice Try.underlying25 (hval 1 25 v1 rfl rfl); obtain ⟨fuel, hf⟩ := h1; exact f_ints Try.underlying25 Try.underlying3 (by kernel_rfl) hf
  obtain ⟨Lx2, Rx2, Ix2, Mx2⟩ : ∃ L : List Int, Rd W 1 v2 L.length (cells encI L) ∧ (∀ x ∈ L, i64 x) ∧ L.length ≤ maxLen := by
    obtain ⟨aa, ll, cc, rfl⟩ := okWide_slice Try.underlying25 (hval 2 25 v2 rfl rfl); obtain ⟨fuel, hf⟩ := h2; exact f_ints Try.underlying25 Try.underlying3 (by kernel_rfl) hf
  refine Calls.mono (agrees_any _ _ _ _ _ _ _ Rx0 Mx0 Rx1 Mx1 Rx2 Mx2) fun e W' he => ?_
  obtain ⟨_, rfl, rfl, hS⟩ := he
  exact ⟨_, rfl, law_post Try_laid (by kernel_rfl) rfl Try.underlying4 rfl hW' rfl rfl rfl hS.below⟩

/-- CrashAgrees: the statement. -/
theorem crashAgrees_holds : Rows.CrashAgreesSaid :=
  OpenClaim.holds_of_wide 5 Try.f5 rfl rfl rfl rfl rfl rfl rfl ⟨rfl, rfl, rfl, rfl, rfl⟩ rfl rfl rfl rfl rfl (by kernel_rfl) Try.func5 (by kernel_rfl)
    (of_decide_eq_true (by kernel_rfl)) (by unfold Func.isWrapper; first | (rw [if_pos (by decide +kernel)]; kernel_rfl) | (rw [if_neg (by decide +kernel)]; exact ⟨rfl, rfl⟩))
    (fun os started H enc _ => crashAgrees_lifted os started H enc)
end Go.Proofs.Ytlhcpeolkkadbaa

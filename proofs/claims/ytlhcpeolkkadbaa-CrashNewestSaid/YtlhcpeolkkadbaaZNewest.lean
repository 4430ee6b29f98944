/- CrashNewest: whatever the lists and the numbers, the call returns true. No condition. -/
import Derived.Test.YtlhcpeolkkadbaaQ
import Derived.Test.YtlhcpeolkkadbaaWq
namespace Go.Proofs.Ytlhcpeolkkadbaa
open Go.ChangeShapes Go.WideShapes Go.ChangeAt Go.RowKit
set_option linter.unusedVariables false

theorem Try_own : ownKnob Try.prog.godebug = none := by kernel_rfl
theorem Try_laid : laidOutB Try.prog = true := by kernel_rfl
set_option maxRecDepth 100000 in
theorem crashNewest_lifted (os : Os) (started : os.Started) (H : Type) (enc : TypeId × Value → H) :
    ReturnsInHanded {} Try.checked os 8 .any (Rows.crashNewestSpec.pre6 enc Try.prog Try.f8 Rows.crashNewestRow.domain false) (Rows.crashNewestSpec.post enc Try.prog Try.f8 false true false false) := by
  refine returnsInHanded_of_change (C := Try.checked) Try_own started (by kernel_rfl) Try.func8
    (ChangeSpec.witness6 (enc := enc) (C := Try.checked) false ⟨#[], #[.slice none 0 0], []⟩ 8 (by kernel_rfl) (by kernel_rfl) (by kernel_rfl) (by kernel_rfl)) ?_
  intro W base args ds gs before hval0 hW hcnd _
  have hval : ∀ (j : Nat) t v, Try.f8.params[j]? = some t → args[j]? = some v → Value.okWide Try.prog W .any base t v := hval0
  have hW' := hW
  obtain ⟨p, q, hA0, hV, rfl, hfz, hnd⟩ := hW
  have r0 : DataW.TrodAll enc Try.prog W 0 (fun _ => true) true Try.f8.params.toList args.toList ds p := hA0
  rw [Try.params8] at r0 hval
  obtain ⟨v0, vs0, d0, ds0, p0, q0, hargs, rfl, rfl, h0, r1⟩ := trodAll_cons r0
  obtain ⟨rfl, rfl, rfl⟩ := trodAll_nil r1
  obtain rfl : args = #[v0] := by cases args; simp_all
  obtain ⟨rfl, rfl⟩ := trodVars_none hV
  obtain ⟨Lx0, Rx0, Ix0, Mx0⟩ : ∃ L : List Int, Rd W 1 v0 L.length (cells encI L) ∧ (∀ x ∈ L, i64 x) ∧ L.length ≤ maxLen := by
    obtain ⟨aa, ll, cc, rfl⟩ := okWide_slice Try.underlying25 (hval 0 25 v0 rfl rfl); obtain ⟨fuel, hf⟩ := h0; exact f_ints Try.underlying25 Try.underlying3 (by kernel_rfl) hf
  refine Calls.mono (newest_any _ _ _ Rx0 Mx0) fun e W' he => ?_
  obtain ⟨_, rfl, rfl, hS⟩ := he
  exact ⟨_, rfl, law_post Try_laid (by kernel_rfl) rfl Try.underlying4 rfl hW' rfl rfl rfl hS.below⟩

/-- CrashNewest: the statement. -/
theorem crashNewest_holds : Rows.CrashNewestSaid :=
  OpenClaim.holds_of_wide 8 Try.f8 rfl rfl rfl rfl rfl rfl rfl ⟨rfl, rfl, rfl, rfl, rfl⟩ rfl rfl rfl rfl rfl (by kernel_rfl) Try.func8 (by kernel_rfl)
    (of_decide_eq_true (by kernel_rfl)) (by unfold Func.isWrapper; first | (rw [if_pos (by decide +kernel)]; kernel_rfl) | (rw [if_neg (by decide +kernel)]; exact ⟨rfl, rfl⟩))
    (fun os started H enc _ => crashNewest_lifted os started H enc)
end Go.Proofs.Ytlhcpeolkkadbaa

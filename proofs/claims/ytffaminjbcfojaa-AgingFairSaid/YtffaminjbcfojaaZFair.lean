/- AgingFair: whatever the list of numbers, the call returns true. No condition. -/
import Derived.Test.YtffaminjbcfojaaQ
import Derived.Test.YtffaminjbcfojaaWB
namespace Go.Proofs.Ytffaminjbcfojaa
open Go.ChangeShapes Go.WideShapes Go.ChangeAt Go.RowKit
set_option linter.unusedVariables false

theorem Try_own : ownKnob Try.prog.godebug = none := by kernel_rfl
theorem Try_laid : laidOutB Try.prog = true := by kernel_rfl
set_option maxRecDepth 100000 in
theorem agingFair_lifted (os : Os) (started : os.Started) (H : Type) (enc : TypeId × Value → H) :
    ReturnsInHanded {} Try.checked os 4 .any (Rows.agingFairSpec.pre6 enc Try.prog Try.f4 Rows.agingFairRow.domain false) (Rows.agingFairSpec.post enc Try.prog Try.f4 false true false false) := by
  refine returnsInHanded_of_change (C := Try.checked) Try_own started (by kernel_rfl) Try.func4
    (ChangeSpec.witness6 (enc := enc) (C := Try.checked) false ⟨#[], #[.slice none 0 0], []⟩ 8 (by kernel_rfl) (by kernel_rfl) (by kernel_rfl) (by kernel_rfl)) ?_
  intro W base args ds gs before hval0 hW hcnd _
  have hval : ∀ (j : Nat) t v, Try.f4.params[j]? = some t → args[j]? = some v → Value.okWide Try.prog W .any base t v := hval0
  have hW' := hW
  obtain ⟨p, q, hA0, hV, rfl, hfz, hnd⟩ := hW
  have r0 : DataW.TrodAll enc Try.prog W 0 (fun _ => true) true Try.f4.params.toList args.toList ds p := hA0
  rw [Try.params4] at r0 hval
  obtain ⟨v0, vs0, d0, ds0, p0, q0, hargs, rfl, rfl, h0, r1⟩ := trodAll_cons r0
  obtain ⟨rfl, rfl, rfl⟩ := trodAll_nil r1
  obtain rfl : args = #[v0] := by cases args; simp_all
  obtain ⟨rfl, rfl⟩ := trodVars_none hV
  obtain ⟨Lx0, Rx0, Ix0, Mx0⟩ : ∃ L : List Int, Rd W 1 v0 L.length (cells encI L) ∧ (∀ x ∈ L, i64 x) ∧ L.length ≤ maxLen := by
    obtain ⟨aa, ll, cc, rfl⟩ := okWide_slice Try.underlying22 (hval 0 22 v0 rfl rfl); obtain ⟨fuel, hf⟩ := h0; exact f_ints Try.underlying22 Try.underlying3 (by kernel_rfl) hf
  refine Calls.mono (fair_law _ _ _ Rx0 Mx0) fun e W' he => ?_
  obtain ⟨_, rfl, rfl, hS⟩ := he
  exact ⟨_, rfl, law_post Try_laid (by kernel_rfl) rfl Try.underlying4 rfl hW' rfl rfl rfl hS.below⟩

/-- AgingFair: the statement. -/
theorem agingFair_holds : Rows.AgingFairSaid :=
  OpenClaim.holds_of_wide 4 Try.f4 rfl rfl rfl rfl rfl rfl rfl ⟨rfl, rfl, rfl, rfl, rfl⟩ rfl rfl rfl rfl rfl (by kernel_rfl) Try.func4 (by kernel_rfl)
    (of_decide_eq_true (by kernel_rfl)) (by unfold Func.isWrapper; first | (rw [if_pos (by decide +kernel)]; kernel_rfl) | (rw [if_neg (by decide +kernel)]; exact ⟨rfl, rfl⟩))
    (fun os started H enc _ => agingFair_lifted os started H enc)
end Go.Proofs.Ytffaminjbcfojaa

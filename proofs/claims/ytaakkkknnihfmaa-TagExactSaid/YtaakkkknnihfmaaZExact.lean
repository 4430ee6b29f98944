/- TagExact: whatever the tags and the numbers, the call returns true. No condition. -/
import Derived.Test.YtaakkkknnihfmaaQ
import Derived.Test.YtaakkkknnihfmaaWA
namespace Go.Proofs.Ytaakkkknnihfmaa
open Go.ChangeShapes Go.WideShapes Go.ChangeAt Go.RowKit
set_option linter.unusedVariables false

theorem Try_own : ownKnob Try.prog.godebug = none := by kernel_rfl
theorem Try_laid : laidOutB Try.prog = true := by kernel_rfl
set_option maxRecDepth 100000 in
theorem tagExact_lifted (os : Os) (started : os.Started) (H : Type) (enc : TypeId × Value → H) :
    ReturnsInHanded {} Try.checked os 4 .any (Rows.tagExactSpec.pre6 enc Try.prog Try.f4 Rows.tagExactRow.domain false) (Rows.tagExactSpec.post enc Try.prog Try.f4 false true false false) := by
  refine returnsInHanded_of_change (C := Try.checked) Try_own started (by kernel_rfl) Try.func4
    (ChangeSpec.witness6 (enc := enc) (C := Try.checked) false ⟨#[], #[.agg #[.slice none 0 0, .int .i64 0, .int .i64 0], .int .i64 0, .int .i64 0, .int .i64 0, .int .i64 0, .int .i64 0, .bool false], []⟩ 8 (by kernel_rfl) (by kernel_rfl) (by kernel_rfl) (by kernel_rfl)) ?_
  intro W base args ds gs before hval0 hW hcnd _
  have hval : ∀ (j : Nat) t v, Try.f4.params[j]? = some t → args[j]? = some v → Value.okWide Try.prog W .any base t v := hval0
  have hW' := hW
  obtain ⟨p, q, hA0, hV, rfl, hfz, hnd⟩ := hW
  have r0 : DataW.TrodAll enc Try.prog W 0 (fun _ => true) true Try.f4.params.toList args.toList ds p := hA0
  rw [Try.params4] at r0 hval
  obtain ⟨v0, vs0, d0, ds0, p0, q0, hargs, rfl, rfl, h0, r1⟩ := trodAll_cons r0
  obtain ⟨v1, vs1, d1, ds1, p1, q1, rfl, rfl, rfl, h1, r2⟩ := trodAll_cons r1
  obtain ⟨v2, vs2, d2, ds2, p2, q2, rfl, rfl, rfl, h2, r3⟩ := trodAll_cons r2
  obtain ⟨v3, vs3, d3, ds3, p3, q3, rfl, rfl, rfl, h3, r4⟩ := trodAll_cons r3
  obtain ⟨v4, vs4, d4, ds4, p4, q4, rfl, rfl, rfl, h4, r5⟩ := trodAll_cons r4
  obtain ⟨v5, vs5, d5, ds5, p5, q5, rfl, rfl, rfl, h5, r6⟩ := trodAll_cons r5
  obtain ⟨v6, vs6, d6, ds6, p6, q6, rfl, rfl, rfl, h6, r7⟩ := trodAll_cons r6
  obtain ⟨rfl, rfl, rfl⟩ := trodAll_nil r7
  obtain rfl : args = #[v0, v1, v2, v3, v4, v5, v6] := by cases args; simp_all
  obtain ⟨rfl, rfl⟩ := trodVars_none hV
  obtain ⟨l, m0, rfl, hl, hf0⟩ := open_st Try.underlying24 (N := 3) (by kernel_rfl) (hval 0 24 v0 rfl rfl) h0
  obtain ⟨x0_0, l0_0, rfl, hl0_0⟩ := len_cons hl
  obtain ⟨x0_1, l0_1, rfl, hl0_1⟩ := len_cons hl0_0
  obtain ⟨x0_2, l0_2, rfl, hl0_2⟩ := len_cons hl0_1
  obtain rfl := len_nil hl0_2
  obtain ⟨y535, hq536⟩ := hf0 0 _ rfl
  obtain ⟨Lx0_0, Rx0_0, Ix0_0, Mx0_0⟩ := f_ints Try.underlying22 Try.underlying3 (by kernel_rfl) (fld1 hq536 (by kernel_rfl) rfl)
  obtain ⟨y537, hq538⟩ := hf0 1 _ rfl
  obtain ⟨x0_1, rfl, hx0_1⟩ := f_int Try.underlying3 (fld1 hq538 (by kernel_rfl) rfl)
  obtain ⟨y539, hq540⟩ := hf0 2 _ rfl
  obtain ⟨x0_2, rfl, hx0_2⟩ := f_int Try.underlying3 (fld1 hq540 (by kernel_rfl) rfl)
  obtain ⟨x1, rfl, -, -, w1⟩ := open_int Try.underlying3 (hval 1 3 v1 rfl rfl) h1
  have hx1 : i64 x1 := by simp [Lit.wf, IntKind.min, IntKind.max, IntKind.signed, IntKind.bits] at w1; exact ⟨by omega, by omega⟩
  obtain ⟨x2, rfl, -, -, w2⟩ := open_int Try.underlying3 (hval 2 3 v2 rfl rfl) h2
  have hx2 : i64 x2 := by simp [Lit.wf, IntKind.min, IntKind.max, IntKind.signed, IntKind.bits] at w2; exact ⟨by omega, by omega⟩
  obtain ⟨x3, rfl, -, -, w3⟩ := open_int Try.underlying3 (hval 3 3 v3 rfl rfl) h3
  have hx3 : i64 x3 := by simp [Lit.wf, IntKind.min, IntKind.max, IntKind.signed, IntKind.bits] at w3; exact ⟨by omega, by omega⟩
  obtain ⟨x4, rfl, -, -, w4⟩ := open_int Try.underlying3 (hval 4 3 v4 rfl rfl) h4
  have hx4 : i64 x4 := by simp [Lit.wf, IntKind.min, IntKind.max, IntKind.signed, IntKind.bits] at w4; exact ⟨by omega, by omega⟩
  obtain ⟨x5, rfl, -, -, w5⟩ := open_int Try.underlying3 (hval 5 3 v5 rfl rfl) h5
  have hx5 : i64 x5 := by simp [Lit.wf, IntKind.min, IntKind.max, IntKind.signed, IntKind.bits] at w5; exact ⟨by omega, by omega⟩
  obtain ⟨x6, rfl, -, -⟩ := open_bool Try.underlying4 (hval 6 4 v6 rfl rfl) h6
  refine Calls.mono (exact_any _ _ _ _ _ _ _ _ _ _ _ Rx0_0 Mx0_0) fun e W' he => ?_
  obtain ⟨_, rfl, rfl, hS⟩ := he
  exact ⟨_, rfl, law_post Try_laid (by kernel_rfl) rfl Try.underlying4 rfl hW' rfl rfl rfl hS.below⟩

/-- TagExact: the statement. -/
theorem tagExact_holds : Rows.TagExactSaid :=
  OpenClaim.holds_of_wide 4 Try.f4 rfl rfl rfl rfl rfl rfl rfl ⟨rfl, rfl, rfl, rfl, rfl⟩ rfl rfl rfl rfl rfl (by kernel_rfl) Try.func4 (by kernel_rfl)
    (of_decide_eq_true (by kernel_rfl)) (by unfold Func.isWrapper; first | (rw [if_pos (by decide +kernel)]; kernel_rfl) | (rw [if_neg (by decide +kernel)]; exact ⟨rfl, rfl⟩))
    (fun os started H enc _ => tagExact_lifted os started H enc)
end Go.Proofs.Ytaakkkknnihfmaa

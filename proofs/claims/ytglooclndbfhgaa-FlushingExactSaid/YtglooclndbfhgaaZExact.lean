/- FlushingExact: whatever the state, the request, fua and the id, the call returns true. No condition. -/
import Derived.Test.YtglooclndbfhgaaQ
import Derived.Test.YtglooclndbfhgaaW3
namespace Go.Proofs.Ytglooclndbfhgaa
open Go.ChangeShapes Go.WideShapes Go.ChangeAt Go.RowKit
set_option linter.unusedVariables false

theorem Try_own : ownKnob Try.prog.godebug = none := by kernel_rfl
theorem Try_laid : laidOutB Try.prog = true := by kernel_rfl
set_option maxRecDepth 100000 in
theorem flushingExact_lifted (os : Os) (started : os.Started) (H : Type) (enc : TypeId × Value → H) :
    ReturnsInHanded {} Try.checked os 3 .any (Rows.flushingExactSpec.pre6 enc Try.prog Try.f3 Rows.flushingExactRow.domain false) (Rows.flushingExactSpec.post enc Try.prog Try.f3 false true false false) := by
  refine returnsInHanded_of_change (C := Try.checked) Try_own started (by kernel_rfl) Try.func3
    (ChangeSpec.witness6 (enc := enc) (C := Try.checked) false ⟨#[], #[.agg #[.slice none 0 0, .slice none 0 0, .bool false], .agg #[.int .i64 0, .int .i64 0, .int .i64 0, .int .i64 0, .int .i64 0, .int .i64 0, .string ⟨#[]⟩, .bool false, .bool false, .int .i64 0], .bool false, .int .i64 0], []⟩ 8 (by kernel_rfl) (by kernel_rfl) (by kernel_rfl) (by kernel_rfl)) ?_
  intro W base args ds gs before hval0 hW hcnd _
  have hval : ∀ (j : Nat) t v, Try.f3.params[j]? = some t → args[j]? = some v → Value.okWide Try.prog W .any base t v := hval0
  have hW' := hW
  obtain ⟨p, q, hA0, hV, rfl, hfz, hnd⟩ := hW
  have r0 : DataW.TrodAll enc Try.prog W 0 (fun _ => true) true Try.f3.params.toList args.toList ds p := hA0
  rw [Try.params3] at r0 hval
  obtain ⟨v0, vs0, d0, ds0, p0, q0, hargs, rfl, rfl, h0, r1⟩ := trodAll_cons r0
  obtain ⟨v1, vs1, d1, ds1, p1, q1, rfl, rfl, rfl, h1, r2⟩ := trodAll_cons r1
  obtain ⟨v2, vs2, d2, ds2, p2, q2, rfl, rfl, rfl, h2, r3⟩ := trodAll_cons r2
  obtain ⟨v3, vs3, d3, ds3, p3, q3, rfl, rfl, rfl, h3, r4⟩ := trodAll_cons r3
  obtain ⟨rfl, rfl, rfl⟩ := trodAll_nil r4
  obtain rfl : args = #[v0, v1, v2, v3] := by cases args; simp_all
  obtain ⟨rfl, rfl⟩ := trodVars_none hV
  obtain ⟨l, m0, rfl, hl, hf0⟩ := open_st Try.underlying24 (N := 3) (by kernel_rfl) (hval 0 24 v0 rfl rfl) h0
  obtain ⟨x0_0, l0_0, rfl, hl0_0⟩ := len_cons hl
  obtain ⟨x0_1, l0_1, rfl, hl0_1⟩ := len_cons hl0_0
  obtain ⟨x0_2, l0_2, rfl, hl0_2⟩ := len_cons hl0_1
  obtain rfl := len_nil hl0_2
  obtain ⟨y151, hq152⟩ := hf0 0 _ rfl
  obtain ⟨Lx0_0, Rx0_0, Ix0_0, Mx0_0⟩ := f_ints Try.underlying22 Try.underlying3 (by kernel_rfl) (fld1 hq152 (by kernel_rfl) rfl)
  obtain ⟨y153, hq154⟩ := hf0 1 _ rfl
  obtain ⟨Lx0_1, Rx0_1, Ix0_1, Mx0_1⟩ := f_ints Try.underlying22 Try.underlying3 (by kernel_rfl) (fld1 hq154 (by kernel_rfl) rfl)
  obtain ⟨y155, hq156⟩ := hf0 2 _ rfl
  obtain ⟨x0_2, rfl⟩ := f_bool Try.underlying4 (fld1 hq156 (by kernel_rfl) rfl)
  obtain ⟨l, m1, rfl, hl, hf1⟩ := open_st Try.underlying26 (N := 10) (by kernel_rfl) (hval 1 26 v1 rfl rfl) h1
  obtain ⟨x1_0, l1_0, rfl, hl1_0⟩ := len_cons hl
  obtain ⟨x1_1, l1_1, rfl, hl1_1⟩ := len_cons hl1_0
  obtain ⟨x1_2, l1_2, rfl, hl1_2⟩ := len_cons hl1_1
  obtain ⟨x1_3, l1_3, rfl, hl1_3⟩ := len_cons hl1_2
  obtain ⟨x1_4, l1_4, rfl, hl1_4⟩ := len_cons hl1_3
  obtain ⟨x1_5, l1_5, rfl, hl1_5⟩ := len_cons hl1_4
  obtain ⟨x1_6, l1_6, rfl, hl1_6⟩ := len_cons hl1_5
  obtain ⟨x1_7, l1_7, rfl, hl1_7⟩ := len_cons hl1_6
  obtain ⟨x1_8, l1_8, rfl, hl1_8⟩ := len_cons hl1_7
  obtain ⟨x1_9, l1_9, rfl, hl1_9⟩ := len_cons hl1_8
  obtain rfl := len_nil hl1_9
  obtain ⟨y157, hq158⟩ := hf1 0 _ rfl
  obtain ⟨x1_0, rfl, hx1_0⟩ := f_int Try.underlying3 (fld1 hq158 (by kernel_rfl) rfl)
  obtain ⟨y159, hq160⟩ := hf1 1 _ rfl
  obtain ⟨x1_1, rfl, hx1_1⟩ := f_int Try.underlying3 (fld1 hq160 (by kernel_rfl) rfl)
  obtain ⟨y161, hq162⟩ := hf1 2 _ rfl
  obtain ⟨x1_2, rfl, hx1_2⟩ := f_int Try.underlying3 (fld1 hq162 (by kernel_rfl) rfl)
  obtain ⟨y163, hq164⟩ := hf1 3 _ rfl
  obtain ⟨x1_3, rfl, hx1_3⟩ := f_int Try.underlying3 (fld1 hq164 (by kernel_rfl) rfl)
  obtain ⟨y165, hq166⟩ := hf1 4 _ rfl
  obtain ⟨x1_4, rfl, hx1_4⟩ := f_int Try.underlying3 (fld1 hq166 (by kernel_rfl) rfl)
  obtain ⟨y167, hq168⟩ := hf1 5 _ rfl
  obtain ⟨x1_5, rfl, hx1_5⟩ := f_int Try.underlying3 (fld1 hq168 (by kernel_rfl) rfl)
  obtain ⟨y169, hq170⟩ := hf1 6 _ rfl
  obtain ⟨x1_6, rfl, hx1_6⟩ := f_str Try.underlying9 (fld1 hq170 (by kernel_rfl) rfl)
  obtain ⟨y171, hq172⟩ := hf1 7 _ rfl
  obtain ⟨x1_7, rfl⟩ := f_bool Try.underlying4 (fld1 hq172 (by kernel_rfl) rfl)
  obtain ⟨y173, hq174⟩ := hf1 8 _ rfl
  obtain ⟨x1_8, rfl⟩ := f_bool Try.underlying4 (fld1 hq174 (by kernel_rfl) rfl)
  obtain ⟨y175, hq176⟩ := hf1 9 _ rfl
  obtain ⟨x1_9, rfl, hx1_9⟩ := f_int Try.underlying3 (fld1 hq176 (by kernel_rfl) rfl)
  obtain ⟨x2, rfl, -, -⟩ := open_bool Try.underlying4 (hval 2 4 v2 rfl rfl) h2
  obtain ⟨x3, rfl, -, -, w3⟩ := open_int Try.underlying3 (hval 3 3 v3 rfl rfl) h3
  have hx3 : i64 x3 := by simp [Lit.wf, IntKind.min, IntKind.max, IntKind.signed, IntKind.bits] at w3; exact ⟨by omega, by omega⟩
  refine Calls.mono (exact_any _ _ _ _ _ x1_0 x1_1 x1_2 x1_3 x1_4 x1_5 x1_6 x1_7 x1_8 x1_9 x2 x3 _ Rx0_0 Rx0_1) fun e W' he => ?_
  obtain ⟨_, rfl, rfl, hS⟩ := he
  exact ⟨_, rfl, law_post Try_laid (by kernel_rfl) rfl Try.underlying4 rfl hW' rfl rfl rfl hS.below⟩

/-- FlushingExact: the statement. -/
theorem flushingExact_holds : Rows.FlushingExactSaid :=
  OpenClaim.holds_of_wide 3 Try.f3 rfl rfl rfl rfl rfl rfl rfl ⟨rfl, rfl, rfl, rfl, rfl⟩ rfl rfl rfl rfl rfl (by kernel_rfl) Try.func3 (by kernel_rfl)
    (of_decide_eq_true (by kernel_rfl)) (by unfold Func.isWrapper; first | (rw [if_pos (by decide +kernel)]; kernel_rfl) | (rw [if_neg (by decide +kernel)]; exact ⟨rfl, rfl⟩))
    (fun os started H enc _ => flushingExact_lifted os started H enc)
end Go.Proofs.Ytglooclndbfhgaa

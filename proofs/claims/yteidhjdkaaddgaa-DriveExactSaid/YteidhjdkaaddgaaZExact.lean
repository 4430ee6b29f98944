/- DriveExact: whatever the drive, the numbers and the data, the call returns true. No condition. -/
import Derived.Test.YteidhjdkaaddgaaQ2
import Derived.Test.YteidhjdkaaddgaaWb
namespace Go.Proofs.Yteidhjdkaaddgaa
open Go.ChangeShapes Go.WideShapes Go.ChangeAt Go.RowKit
set_option linter.unusedVariables false

theorem dec39 {H : Type} {enc : TypeId × Value → H} {base : Nat} {w : World} {spare : Nat → Bool} {held : Bool} {n : Nat} {cs : List Value} {y : DataW H × List MemPlace} (h : DataW.trod enc Try.prog w base spare held n 39 cs = some y) (hl : cs.length = 2) : ∃ x : E39, cs = enc39 x ∧ True := by
  obtain ⟨c0, l0, rfl, hl0⟩ := len_cons hl
  obtain ⟨c1, l1, rfl, hl1⟩ := len_cons hl0
  obtain rfl := len_nil hl1
  obtain ⟨-, m, hf⟩ := st_field Try.underlying39 h
  obtain ⟨y564, hq565⟩ := hf 0 _ rfl
  obtain ⟨c0, rfl, hc0⟩ := f_int Try.underlying3 (fld1 hq565 (by kernel_rfl) rfl)
  obtain ⟨y566, hq567⟩ := hf 1 _ rfl
  obtain ⟨c1, rfl, hc1⟩ := f_str Try.underlying9 (fld1 hq567 (by kernel_rfl) rfl)
  exact ⟨⟨c0, c1⟩, rfl, trivial⟩
theorem Try_own : ownKnob Try.prog.godebug = none := by kernel_rfl
theorem Try_laid : laidOutB Try.prog = true := by kernel_rfl
set_option maxRecDepth 100000 in
theorem driveExact_lifted (os : Os) (started : os.Started) (H : Type) (enc : TypeId × Value → H) :
    ReturnsInHanded {} Try.checked os 7 .any (Rows.driveExactSpec.pre6 enc Try.prog Try.f7 Rows.driveExactRow.domain false) (Rows.driveExactSpec.post enc Try.prog Try.f7 false true false false) := by
  refine returnsInHanded_of_change (C := Try.checked) Try_own started (by kernel_rfl) Try.func7
    (ChangeSpec.witness6 (enc := enc) (C := Try.checked) false ⟨#[], #[.agg #[.string ⟨#[]⟩, .slice none 0 0, .int .i64 0], .int .i64 0, .int .i64 0, .int .i64 0, .string ⟨#[]⟩, .bool false], []⟩ 8 (by kernel_rfl) (by kernel_rfl) (by kernel_rfl) (by kernel_rfl)) ?_
  intro W base args ds gs before hval0 hW hcnd _
  have hval : ∀ (j : Nat) t v, Try.f7.params[j]? = some t → args[j]? = some v → Value.okWide Try.prog W .any base t v := hval0
  have hW' := hW
  obtain ⟨p, q, hA0, hV, rfl, hfz, hnd⟩ := hW
  have r0 : DataW.TrodAll enc Try.prog W 0 (fun _ => true) true Try.f7.params.toList args.toList ds p := hA0
  rw [Try.params7] at r0 hval
  obtain ⟨v0, vs0, d0, ds0, p0, q0, hargs, rfl, rfl, h0, r1⟩ := trodAll_cons r0
  obtain ⟨v1, vs1, d1, ds1, p1, q1, rfl, rfl, rfl, h1, r2⟩ := trodAll_cons r1
  obtain ⟨v2, vs2, d2, ds2, p2, q2, rfl, rfl, rfl, h2, r3⟩ := trodAll_cons r2
  obtain ⟨v3, vs3, d3, ds3, p3, q3, rfl, rfl, rfl, h3, r4⟩ := trodAll_cons r3
  obtain ⟨v4, vs4, d4, ds4, p4, q4, rfl, rfl, rfl, h4, r5⟩ := trodAll_cons r4
  obtain ⟨v5, vs5, d5, ds5, p5, q5, rfl, rfl, rfl, h5, r6⟩ := trodAll_cons r5
  obtain ⟨rfl, rfl, rfl⟩ := trodAll_nil r6
  obtain rfl : args = #[v0, v1, v2, v3, v4, v5] := by cases args; simp_all
  obtain ⟨rfl, rfl⟩ := trodVars_none hV
  obtain ⟨l, m0, rfl, hl, hf0⟩ := open_st Try.underlying25 (N := 3) (by kernel_rfl) (hval 0 25 v0 rfl rfl) h0
  obtain ⟨x0_0, l0_0, rfl, hl0_0⟩ := len_cons hl
  obtain ⟨x0_1, l0_1, rfl, hl0_1⟩ := len_cons hl0_0
  obtain ⟨x0_2, l0_2, rfl, hl0_2⟩ := len_cons hl0_1
  obtain rfl := len_nil hl0_2
  obtain ⟨y558, hq559⟩ := hf0 0 _ rfl
  obtain ⟨x0_0, rfl, hx0_0⟩ := f_str Try.underlying9 (fld1 hq559 (by kernel_rfl) rfl)
  obtain ⟨y560, hq561⟩ := hf0 1 _ rfl
  obtain ⟨Lx0_1, Rx0_1, Ix0_1, Mx0_1⟩ := f_list (size := 2) (encE := enc39) (good := fun _ => True) Try.underlying23 (by kernel_rfl) (by decide) enc39_len (fun n cs y hy hl => dec39 hy hl) (fld1 hq561 (by kernel_rfl) rfl)
  obtain ⟨y562, hq563⟩ := hf0 2 _ rfl
  obtain ⟨x0_2, rfl, hx0_2⟩ := f_int Try.underlying3 (fld1 hq563 (by kernel_rfl) rfl)
  obtain ⟨x1, rfl, -, -, w1⟩ := open_int Try.underlying3 (hval 1 3 v1 rfl rfl) h1
  have hx1 : i64 x1 := by simp [Lit.wf, IntKind.min, IntKind.max, IntKind.signed, IntKind.bits] at w1; exact ⟨by omega, by omega⟩
  obtain ⟨x2, rfl, -, -, w2⟩ := open_int Try.underlying3 (hval 2 3 v2 rfl rfl) h2
  have hx2 : i64 x2 := by simp [Lit.wf, IntKind.min, IntKind.max, IntKind.signed, IntKind.bits] at w2; exact ⟨by omega, by omega⟩
  obtain ⟨x3, rfl, -, -, w3⟩ := open_int Try.underlying3 (hval 3 3 v3 rfl rfl) h3
  have hx3 : i64 x3 := by simp [Lit.wf, IntKind.min, IntKind.max, IntKind.signed, IntKind.bits] at w3; exact ⟨by omega, by omega⟩
  obtain ⟨x4, rfl, -, -, hx4⟩ := Go.ChangeMaps.open_string Try.underlying9 (hval 4 9 v4 rfl rfl) h4
  obtain ⟨x5, rfl, -, -⟩ := open_bool Try.underlying4 (hval 5 4 v5 rfl rfl) h5
  refine Calls.mono (exact_any x0_0 _ _ x0_2 x1 x2 x3 x4 x5 _ Rx0_1 hx0_0 Mx0_1 hx4) fun e W' he => ?_
  obtain ⟨_, rfl, rfl, hS⟩ := he
  exact ⟨_, rfl, law_post Try_laid (by kernel_rfl) rfl Try.underlying4 rfl hW' rfl rfl rfl hS.below⟩

/-- DriveExact: the statement. -/
theorem driveExact_holds : Rows.DriveExactSaid :=
  OpenClaim.holds_of_wide 7 Try.f7 rfl rfl rfl rfl rfl rfl rfl ⟨rfl, rfl, rfl, rfl, rfl⟩ rfl rfl rfl rfl rfl (by kernel_rfl) Try.func7 (by kernel_rfl)
    (of_decide_eq_true (by kernel_rfl)) (by unfold Func.isWrapper; first | (rw [if_pos (by decide +kernel)]; kernel_rfl) | (rw [if_neg (by decide +kernel)]; exact ⟨rfl, rfl⟩))
    (fun os started H enc _ => driveExact_lifted os started H enc)
end Go.Proofs.Yteidhjdkaaddgaa

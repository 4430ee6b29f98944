/- CrashExact: whatever the drive, the sectors on their way, the choice and the image, the call returns true. No condition. -/
import Derived.Test.YtlhcpeolkkadbaaQ2
import Derived.Test.YtlhcpeolkkadbaaWm
namespace Go.Proofs.Ytlhcpeolkkadbaa
open Go.ChangeShapes Go.WideShapes Go.ChangeAt Go.RowKit
set_option linter.unusedVariables false

theorem dec59 {H : Type} {enc : TypeId × Value → H} {base : Nat} {w : World} {spare : Nat → Bool} {held : Bool} {n : Nat} {cs : List Value} {y : DataW H × List MemPlace} (h : DataW.trod enc Try.prog w base spare held n 59 cs = some y) (hl : cs.length = 2) : ∃ x : E59, cs = enc59 x ∧ True := by
  obtain ⟨c0, l0, rfl, hl0⟩ := len_cons hl
  obtain ⟨c1, l1, rfl, hl1⟩ := len_cons hl0
  obtain rfl := len_nil hl1
  obtain ⟨-, m, hf⟩ := st_field Try.underlying59 h
  obtain ⟨y539, hq540⟩ := hf 0 _ rfl
  obtain ⟨c0, rfl, hc0⟩ := f_int Try.underlying3 (fld1 hq540 (by kernel_rfl) rfl)
  obtain ⟨y541, hq542⟩ := hf 1 _ rfl
  obtain ⟨c1, rfl, hc1⟩ := f_str Try.underlying9 (fld1 hq542 (by kernel_rfl) rfl)
  exact ⟨⟨c0, c1⟩, rfl, trivial⟩
theorem Try_own : ownKnob Try.prog.godebug = none := by kernel_rfl
theorem Try_laid : laidOutB Try.prog = true := by kernel_rfl
set_option maxRecDepth 100000 in
theorem crashExact_lifted (os : Os) (started : os.Started) (H : Type) (enc : TypeId × Value → H) :
    ReturnsInHanded {} Try.checked os 3 .any (Rows.crashExactSpec.pre6 enc Try.prog Try.f3 Rows.crashExactRow.domain false) (Rows.crashExactSpec.post enc Try.prog Try.f3 false true false false) := by
  refine returnsInHanded_of_change (C := Try.checked) Try_own started (by kernel_rfl) Try.func3
    (ChangeSpec.witness6 (enc := enc) (C := Try.checked) false ⟨#[], #[.agg #[.string ⟨#[]⟩, .slice none 0 0, .int .i64 0], .slice none 0 0, .agg #[.slice none 0 0, .slice none 0 0], .string ⟨#[]⟩], []⟩ 8 (by kernel_rfl) (by kernel_rfl) (by kernel_rfl) (by kernel_rfl)) ?_
  intro W base args ds gs before hval0 hW hcnd _
  have hval : ∀ (j : Nat) t v, Try.f3.params[j]? = some t → args[j]? = some v → Value.okWide Try.prog W .any base t v := hval0
  have hW' := hW
  obtain ⟨p, q, hA0, hV, rfl, hfz, hnd⟩ := hW
  have r0 : DataW.TrodAll enc Try.prog W 0 (fun _ => true) true Try.f3.params.toList args.toList ds p := hA0
  rw [Try.params3] at r0 hval
  obtain ⟨v0, vs0, d0, ds0, p0, q0, hargs, rfl, rfl, h0, r1⟩ := trodAll_cons r0
  obtain ⟨v1, vs1, d1, ds1, p1, q1, rfl, rfl, rfl, h1, r2⟩ := trodAll_cons r1
  obtain ⟨v2, vs2, d2, ds2, p2, q2, rfl, rfl, rfl, h2, r3⟩ := trodAll_cons r2
  obtain ⟨v3, vs3, d3, ds3, p3, q3, rfl, rfl, rfl, h3, r4⟩ := trodAll_cons r3
  obtain ⟨rfl, rfl, rfl⟩ := trodAll_nil r4
  obtain rfl : args = #[v0, v1, v2, v3] := by cases args; simp_all
  obtain ⟨rfl, rfl⟩ := trodVars_none hV
  obtain ⟨l, m0, rfl, hl, hf0⟩ := open_st Try.underlying24 (N := 3) (by kernel_rfl) (hval 0 24 v0 rfl rfl) h0
  obtain ⟨x0_0, l0_0, rfl, hl0_0⟩ := len_cons hl
  obtain ⟨x0_1, l0_1, rfl, hl0_1⟩ := len_cons hl0_0
  obtain ⟨x0_2, l0_2, rfl, hl0_2⟩ := len_cons hl0_1
  obtain rfl := len_nil hl0_2
  obtain ⟨y529, hq530⟩ := hf0 0 _ rfl
  obtain ⟨x0_0, rfl, hx0_0⟩ := f_str Try.underlying9 (fld1 hq530 (by kernel_rfl) rfl)
  obtain ⟨y531, hq532⟩ := hf0 1 _ rfl
  obtain ⟨Lx0_1, Rx0_1, Ix0_1, Mx0_1⟩ := f_list (size := 2) (encE := enc59) (good := fun _ => True) Try.underlying22 (by kernel_rfl) (by decide) enc59_len (fun n cs y hy hl => dec59 hy hl) (fld1 hq532 (by kernel_rfl) rfl)
  obtain ⟨y533, hq534⟩ := hf0 2 _ rfl
  obtain ⟨x0_2, rfl, hx0_2⟩ := f_int Try.underlying3 (fld1 hq534 (by kernel_rfl) rfl)
  obtain ⟨Lx1, Rx1, Ix1, Mx1⟩ : ∃ L : List E59, Rd W 2 v1 L.length (cells enc59 L) ∧ (∀ x ∈ L, True) ∧ L.length ≤ maxLen := by
    obtain ⟨aa, ll, cc, rfl⟩ := okWide_slice Try.underlying22 (hval 1 22 v1 rfl rfl); obtain ⟨fuel, hf⟩ := h1; exact f_list (size := 2) (encE := enc59) (good := fun _ => True) Try.underlying22 (by kernel_rfl) (by decide) enc59_len (fun n cs y hy hl => dec59 hy hl) hf
  obtain ⟨l, m2, rfl, hl, hf2⟩ := open_st Try.underlying28 (N := 2) (by kernel_rfl) (hval 2 28 v2 rfl rfl) h2
  obtain ⟨x2_0, l2_0, rfl, hl2_0⟩ := len_cons hl
  obtain ⟨x2_1, l2_1, rfl, hl2_1⟩ := len_cons hl2_0
  obtain rfl := len_nil hl2_1
  obtain ⟨y535, hq536⟩ := hf2 0 _ rfl
  obtain ⟨Lx2_0, Rx2_0, Ix2_0, Mx2_0⟩ := f_ints Try.underlying25 Try.underlying3 (by kernel_rfl) (fld1 hq536 (by kernel_rfl) rfl)
  obtain ⟨y537, hq538⟩ := hf2 1 _ rfl
  obtain ⟨Lx2_1, Rx2_1, Ix2_1, Mx2_1⟩ := f_list (size := 1) (encE := encB) (good := fun _ => True) Try.underlying26 (by kernel_rfl) (by decide) encB_len (fun n cs y hy hl => by obtain ⟨c9, r9, rfl, hr9⟩ := len_cons hl; obtain rfl := len_nil hr9; obtain ⟨b9, rfl⟩ := f_bool Try.underlying4 hy; exact ⟨b9, rfl, trivial⟩) (fld1 hq538 (by kernel_rfl) rfl)
  obtain ⟨x3, rfl, -, -, hx3⟩ := Go.ChangeMaps.open_string Try.underlying9 (hval 3 9 v3 rfl rfl) h3
  refine Calls.mono (exact_any x0_0 _ _ x0_2 _ _ _ _ _ _ x3 _ Rx0_1 Rx1 Rx2_0 Rx2_1) fun e W' he => ?_
  obtain ⟨_, rfl, rfl, hS⟩ := he
  exact ⟨_, rfl, law_post Try_laid (by kernel_rfl) rfl Try.underlying4 rfl hW' rfl rfl rfl hS.below⟩

/-- CrashExact: the statement. -/
theorem crashExact_holds : Rows.CrashExactSaid :=
  OpenClaim.holds_of_wide 3 Try.f3 rfl rfl rfl rfl rfl rfl rfl ⟨rfl, rfl, rfl, rfl, rfl⟩ rfl rfl rfl rfl rfl (by kernel_rfl) Try.func3 (by kernel_rfl)
    (of_decide_eq_true (by kernel_rfl)) (by unfold Func.isWrapper; first | (rw [if_pos (by decide +kernel)]; kernel_rfl) | (rw [if_neg (by decide +kernel)]; exact ⟨rfl, rfl⟩))
    (fun os started H enc _ => crashExact_lifted os started H enc)
end Go.Proofs.Ytlhcpeolkkadbaa

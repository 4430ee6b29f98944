/- FaultExact: whatever the rules, the numbers, the drive and the command, the call returns true. No condition. -/
import Derived.Test.YtkejcnhfbfgphaaQ2
import Derived.Test.YtkejcnhfbfgphaaY6
namespace Go.Proofs.Ytkejcnhfbfgphaa
open Go.ChangeShapes Go.WideShapes Go.ChangeAt Go.RowKit
set_option linter.unusedVariables false

theorem dec37 {H : Type} {enc : TypeId × Value → H} {base : Nat} {w : World} {spare : Nat → Bool} {held : Bool} {n : Nat} {cs : List Value} {y : DataW H × List MemPlace} (h : DataW.trod enc Try.prog w base spare held n 37 cs = some y) (hl : cs.length = 9) : ∃ x : E37, cs = enc37 x ∧ True := by
 obtain ⟨c0, l0, rfl, hl0⟩ := len_cons hl
 obtain ⟨c1, l1, rfl, hl1⟩ := len_cons hl0
 obtain ⟨c2, l2, rfl, hl2⟩ := len_cons hl1
 obtain ⟨c3, l3, rfl, hl3⟩ := len_cons hl2
 obtain ⟨c4, l4, rfl, hl4⟩ := len_cons hl3
 obtain ⟨c5, l5, rfl, hl5⟩ := len_cons hl4
 obtain ⟨c6, l6, rfl, hl6⟩ := len_cons hl5
 obtain ⟨c7, l7, rfl, hl7⟩ := len_cons hl6
 obtain ⟨c8, l8, rfl, hl8⟩ := len_cons hl7
 obtain rfl := len_nil hl8
 obtain ⟨-, m, hf⟩ := st_field Try.underlying37 h
 obtain ⟨y1063, hq1064⟩ := hf 0 _ rfl
 obtain ⟨c0, rfl, hc0⟩ := f_int Try.underlying3 (fld1 hq1064 (by kernel_rfl) rfl)
 obtain ⟨y1065, hq1066⟩ := hf 1 _ rfl
 obtain ⟨c1, rfl, hc1⟩ := f_int Try.underlying3 (fld1 hq1066 (by kernel_rfl) rfl)
 obtain ⟨y1067, hq1068⟩ := hf 2 _ rfl
 obtain ⟨c2, rfl, hc2⟩ := f_int Try.underlying3 (fld1 hq1068 (by kernel_rfl) rfl)
 obtain ⟨y1069, hq1070⟩ := hf 3 _ rfl
 obtain ⟨c3, rfl, hc3⟩ := f_int Try.underlying3 (fld1 hq1070 (by kernel_rfl) rfl)
 obtain ⟨y1071, hq1072⟩ := hf 4 _ rfl
 obtain ⟨c4, rfl, hc4⟩ := f_int Try.underlying3 (fld1 hq1072 (by kernel_rfl) rfl)
 obtain ⟨y1073, hq1074⟩ := hf 5 _ rfl
 have hk1075 := fldk (l' := [c5, c6, c7, c8]) hq1074 (by kernel_rfl : _ = 4) rfl
 obtain ⟨-, m1076, hf1077⟩ := st_field Try.underlying27 hk1075
 obtain ⟨y1078, hq1079⟩ := hf1077 0 _ rfl
 obtain ⟨c5, rfl, hc5⟩ := f_int Try.underlying25 (fld1 hq1079 (by kernel_rfl) rfl)
 obtain ⟨y1080, hq1081⟩ := hf1077 1 _ rfl
 obtain ⟨c6, rfl, hc6⟩ := f_int Try.underlying3 (fld1 hq1081 (by kernel_rfl) rfl)
 obtain ⟨y1082, hq1083⟩ := hf1077 2 _ rfl
 obtain ⟨c7, rfl⟩ := f_bool Try.underlying4 (fld1 hq1083 (by kernel_rfl) rfl)
 obtain ⟨y1084, hq1085⟩ := hf1077 3 _ rfl
 obtain ⟨c8, rfl, hc8⟩ := f_int Try.underlying3 (fld1 hq1085 (by kernel_rfl) rfl)
 exact ⟨⟨c0, c1, c2, c3, c4, c5, c6, c7, c8⟩, rfl, trivial⟩
theorem dec67 {H : Type} {enc : TypeId × Value → H} {base : Nat} {w : World} {spare : Nat → Bool} {held : Bool} {n : Nat} {cs : List Value} {y : DataW H × List MemPlace} (h : DataW.trod enc Try.prog w base spare held n 67 cs = some y) (hl : cs.length = 2) : ∃ x : E67, cs = enc67 x ∧ True := by
 obtain ⟨c0, l0, rfl, hl0⟩ := len_cons hl
 obtain ⟨c1, l1, rfl, hl1⟩ := len_cons hl0
 obtain rfl := len_nil hl1
 obtain ⟨-, m, hf⟩ := st_field Try.underlying67 h
 obtain ⟨y1086, hq1087⟩ := hf 0 _ rfl
 obtain ⟨c0, rfl, hc0⟩ := f_int Try.underlying3 (fld1 hq1087 (by kernel_rfl) rfl)
 obtain ⟨y1088, hq1089⟩ := hf 1 _ rfl
 obtain ⟨c1, rfl, hc1⟩ := f_str Try.underlying9 (fld1 hq1089 (by kernel_rfl) rfl)
 exact ⟨⟨c0, c1⟩, rfl, trivial⟩
theorem Try_own : ownKnob Try.prog.godebug = none := by kernel_rfl
theorem Try_laid : laidOutB Try.prog = true := by kernel_rfl
set_option maxRecDepth 100000 in
theorem faultExact_lifted (os : Os) (started : os.Started) (H : Type) (enc : TypeId × Value → H) :
  ReturnsInHanded {} Try.checked os 6 .any (Rows.faultExactSpec.pre6 enc Try.prog Try.f6 Rows.faultExactRow.domain false) (Rows.faultExactSpec.post enc Try.prog Try.f6 false true false false) := by
 refine returnsInHanded_of_change (C := Try.checked) Try_own started (by kernel_rfl) Try.func6
  (ChangeSpec.witness6 (enc := enc) (C := Try.checked) false ⟨#[], #[.agg #[.int .i64 0, .int .i64 0, .int .i64 0, .int .i64 0, .int .i64 0, .int .i64 0, .int .i64 0, .bool false, .int .i64 0], .slice none 0 0, .int .i64 0, .int .i64 0, .int .i64 0, .agg #[.string ⟨#[]⟩, .slice none 0 0, .int .i64 0], .agg #[.int .i64 0, .int .i64 0, .int .i64 0, .int .i64 0, .string ⟨#[]⟩, .bool false, .int .i64 0, .int .i64 0, .int .i64 0, .int .i64 0, .bool false, .int .i64 0]], []⟩ 8 (by kernel_rfl) (by kernel_rfl) (by kernel_rfl) (by kernel_rfl)) ?_
 intro W base args ds gs before hval0 hW hcnd _
 have hval : ∀ (j : Nat) t v, Try.f6.params[j]? = some t → args[j]? = some v → Value.okWide Try.prog W .any base t v := hval0
 have hW' := hW
 obtain ⟨p, q, hA0, hV, rfl, hfz, hnd⟩ := hW
 have r0 : DataW.TrodAll enc Try.prog W 0 (fun _ => true) true Try.f6.params.toList args.toList ds p := hA0
 rw [Try.params6] at r0 hval
 obtain ⟨v0, vs0, d0, ds0, p0, q0, hargs, rfl, rfl, h0, r1⟩ := trodAll_cons r0
 obtain ⟨v1, vs1, d1, ds1, p1, q1, rfl, rfl, rfl, h1, r2⟩ := trodAll_cons r1
 obtain ⟨v2, vs2, d2, ds2, p2, q2, rfl, rfl, rfl, h2, r3⟩ := trodAll_cons r2
 obtain ⟨v3, vs3, d3, ds3, p3, q3, rfl, rfl, rfl, h3, r4⟩ := trodAll_cons r3
 obtain ⟨v4, vs4, d4, ds4, p4, q4, rfl, rfl, rfl, h4, r5⟩ := trodAll_cons r4
 obtain ⟨v5, vs5, d5, ds5, p5, q5, rfl, rfl, rfl, h5, r6⟩ := trodAll_cons r5
 obtain ⟨v6, vs6, d6, ds6, p6, q6, rfl, rfl, rfl, h6, r7⟩ := trodAll_cons r6
 obtain ⟨rfl, rfl, rfl⟩ := trodAll_nil r7
 obtain rfl : args = #[v0, v1, v2, v3, v4, v5, v6] := by cases args; simp_all
 obtain ⟨rfl, rfl⟩ := trodVars_none hV
 obtain ⟨l, m0, rfl, hl, hf0⟩ := open_st Try.underlying37 (N := 9) (by kernel_rfl) (hval 0 37 v0 rfl rfl) h0
 obtain ⟨x0_0, l0_0, rfl, hl0_0⟩ := len_cons hl
 obtain ⟨x0_1, l0_1, rfl, hl0_1⟩ := len_cons hl0_0
 obtain ⟨x0_2, l0_2, rfl, hl0_2⟩ := len_cons hl0_1
 obtain ⟨x0_3, l0_3, rfl, hl0_3⟩ := len_cons hl0_2
 obtain ⟨x0_4, l0_4, rfl, hl0_4⟩ := len_cons hl0_3
 obtain ⟨x0_5, l0_5, rfl, hl0_5⟩ := len_cons hl0_4
 obtain ⟨x0_6, l0_6, rfl, hl0_6⟩ := len_cons hl0_5
 obtain ⟨x0_7, l0_7, rfl, hl0_7⟩ := len_cons hl0_6
 obtain ⟨x0_8, l0_8, rfl, hl0_8⟩ := len_cons hl0_7
 obtain rfl := len_nil hl0_8
 obtain ⟨y1005, hq1006⟩ := hf0 0 _ rfl
 obtain ⟨x0_0, rfl, hx0_0⟩ := f_int Try.underlying3 (fld1 hq1006 (by kernel_rfl) rfl)
 obtain ⟨y1007, hq1008⟩ := hf0 1 _ rfl
 obtain ⟨x0_1, rfl, hx0_1⟩ := f_int Try.underlying3 (fld1 hq1008 (by kernel_rfl) rfl)
 obtain ⟨y1009, hq1010⟩ := hf0 2 _ rfl
 obtain ⟨x0_2, rfl, hx0_2⟩ := f_int Try.underlying3 (fld1 hq1010 (by kernel_rfl) rfl)
 obtain ⟨y1011, hq1012⟩ := hf0 3 _ rfl
 obtain ⟨x0_3, rfl, hx0_3⟩ := f_int Try.underlying3 (fld1 hq1012 (by kernel_rfl) rfl)
 obtain ⟨y1013, hq1014⟩ := hf0 4 _ rfl
 obtain ⟨x0_4, rfl, hx0_4⟩ := f_int Try.underlying3 (fld1 hq1014 (by kernel_rfl) rfl)
 obtain ⟨y1015, hq1016⟩ := hf0 5 _ rfl
 have hk1017 := fldk (l' := [x0_5, x0_6, x0_7, x0_8]) hq1016 (by kernel_rfl : _ = 4) rfl
 obtain ⟨-, m1018, hf1019⟩ := st_field Try.underlying27 hk1017
 obtain ⟨y1020, hq1021⟩ := hf1019 0 _ rfl
 obtain ⟨x0_5, rfl, hx0_5⟩ := f_int Try.underlying25 (fld1 hq1021 (by kernel_rfl) rfl)
 obtain ⟨y1022, hq1023⟩ := hf1019 1 _ rfl
 obtain ⟨x0_6, rfl, hx0_6⟩ := f_int Try.underlying3 (fld1 hq1023 (by kernel_rfl) rfl)
 obtain ⟨y1024, hq1025⟩ := hf1019 2 _ rfl
 obtain ⟨x0_7, rfl⟩ := f_bool Try.underlying4 (fld1 hq1025 (by kernel_rfl) rfl)
 obtain ⟨y1026, hq1027⟩ := hf1019 3 _ rfl
 obtain ⟨x0_8, rfl, hx0_8⟩ := f_int Try.underlying3 (fld1 hq1027 (by kernel_rfl) rfl)
 obtain ⟨Lx1, Rx1, Ix1, Mx1⟩ : ∃ L : List E37, Rd W 9 v1 L.length (cells enc37 L) ∧ (∀ x ∈ L, True) ∧ L.length ≤ maxLen := by
  obtain ⟨aa, ll, cc, rfl⟩ := okWide_slice Try.underlying23 (hval 1 23 v1 rfl rfl); obtain ⟨fuel, hf⟩ := h1; exact f_list (size := 9) (encE := enc37) (good := fun _ => True) Try.underlying23 (by kernel_rfl) (by decide) enc37_len (fun n cs y hy hl => dec37 hy hl) hf
 obtain ⟨x2, rfl, -, -, w2⟩ := open_int Try.underlying3 (hval 2 3 v2 rfl rfl) h2
 have hx2 : i64 x2 := by simp [Lit.wf, IntKind.min, IntKind.max, IntKind.signed, IntKind.bits] at w2; exact ⟨by omega, by omega⟩
 obtain ⟨x3, rfl, -, -, w3⟩ := open_int Try.underlying3 (hval 3 3 v3 rfl rfl) h3
 have hx3 : i64 x3 := by simp [Lit.wf, IntKind.min, IntKind.max, IntKind.signed, IntKind.bits] at w3; exact ⟨by omega, by omega⟩
 obtain ⟨x4, rfl, -, -, w4⟩ := open_int Try.underlying3 (hval 4 3 v4 rfl rfl) h4
 have hx4 : i64 x4 := by simp [Lit.wf, IntKind.min, IntKind.max, IntKind.signed, IntKind.bits] at w4; exact ⟨by omega, by omega⟩
 obtain ⟨l, m5, rfl, hl, hf5⟩ := open_st Try.underlying43 (N := 3) (by kernel_rfl) (hval 5 43 v5 rfl rfl) h5
 obtain ⟨x5_0, l5_0, rfl, hl5_0⟩ := len_cons hl
 obtain ⟨x5_1, l5_1, rfl, hl5_1⟩ := len_cons hl5_0
 obtain ⟨x5_2, l5_2, rfl, hl5_2⟩ := len_cons hl5_1
 obtain rfl := len_nil hl5_2
 obtain ⟨y1028, hq1029⟩ := hf5 0 _ rfl
 obtain ⟨x5_0, rfl, hx5_0⟩ := f_str Try.underlying9 (fld1 hq1029 (by kernel_rfl) rfl)
 obtain ⟨y1030, hq1031⟩ := hf5 1 _ rfl
 obtain ⟨Lx5_1, Rx5_1, Ix5_1, Mx5_1⟩ := f_list (size := 2) (encE := enc67) (good := fun _ => True) Try.underlying41 (by kernel_rfl) (by decide) enc67_len (fun n cs y hy hl => dec67 hy hl) (fld1 hq1031 (by kernel_rfl) rfl)
 obtain ⟨y1032, hq1033⟩ := hf5 2 _ rfl
 obtain ⟨x5_2, rfl, hx5_2⟩ := f_int Try.underlying3 (fld1 hq1033 (by kernel_rfl) rfl)
 obtain ⟨l, m6, rfl, hl, hf6⟩ := open_st Try.underlying45 (N := 12) (by kernel_rfl) (hval 6 45 v6 rfl rfl) h6
 obtain ⟨x6_0, l6_0, rfl, hl6_0⟩ := len_cons hl
 obtain ⟨x6_1, l6_1, rfl, hl6_1⟩ := len_cons hl6_0
 obtain ⟨x6_2, l6_2, rfl, hl6_2⟩ := len_cons hl6_1
 obtain ⟨x6_3, l6_3, rfl, hl6_3⟩ := len_cons hl6_2
 obtain ⟨x6_4, l6_4, rfl, hl6_4⟩ := len_cons hl6_3
 obtain ⟨x6_5, l6_5, rfl, hl6_5⟩ := len_cons hl6_4
 obtain ⟨x6_6, l6_6, rfl, hl6_6⟩ := len_cons hl6_5
 obtain ⟨x6_7, l6_7, rfl, hl6_7⟩ := len_cons hl6_6
 obtain ⟨x6_8, l6_8, rfl, hl6_8⟩ := len_cons hl6_7
 obtain ⟨x6_9, l6_9, rfl, hl6_9⟩ := len_cons hl6_8
 obtain ⟨x6_10, l6_10, rfl, hl6_10⟩ := len_cons hl6_9
 obtain ⟨x6_11, l6_11, rfl, hl6_11⟩ := len_cons hl6_10
 obtain rfl := len_nil hl6_11
 obtain ⟨y1034, hq1035⟩ := hf6 0 _ rfl
 obtain ⟨x6_0, rfl, hx6_0⟩ := f_int Try.underlying3 (fld1 hq1035 (by kernel_rfl) rfl)
 obtain ⟨y1036, hq1037⟩ := hf6 1 _ rfl
 obtain ⟨x6_1, rfl, hx6_1⟩ := f_int Try.underlying3 (fld1 hq1037 (by kernel_rfl) rfl)
 obtain ⟨y1038, hq1039⟩ := hf6 2 _ rfl
 obtain ⟨x6_2, rfl, hx6_2⟩ := f_int Try.underlying3 (fld1 hq1039 (by kernel_rfl) rfl)
 obtain ⟨y1040, hq1041⟩ := hf6 3 _ rfl
 obtain ⟨x6_3, rfl, hx6_3⟩ := f_int Try.underlying3 (fld1 hq1041 (by kernel_rfl) rfl)
 obtain ⟨y1042, hq1043⟩ := hf6 4 _ rfl
 obtain ⟨x6_4, rfl, hx6_4⟩ := f_str Try.underlying9 (fld1 hq1043 (by kernel_rfl) rfl)
 obtain ⟨y1044, hq1045⟩ := hf6 5 _ rfl
 obtain ⟨x6_5, rfl⟩ := f_bool Try.underlying4 (fld1 hq1045 (by kernel_rfl) rfl)
 obtain ⟨y1046, hq1047⟩ := hf6 6 _ rfl
 obtain ⟨x6_6, rfl, hx6_6⟩ := f_int Try.underlying3 (fld1 hq1047 (by kernel_rfl) rfl)
 obtain ⟨y1048, hq1049⟩ := hf6 7 _ rfl
 obtain ⟨x6_7, rfl, hx6_7⟩ := f_int Try.underlying3 (fld1 hq1049 (by kernel_rfl) rfl)
 obtain ⟨y1050, hq1051⟩ := hf6 8 _ rfl
 have hk1052 := fldk (l' := [x6_8, x6_9, x6_10, x6_11]) hq1051 (by kernel_rfl : _ = 4) rfl
 obtain ⟨-, m1053, hf1054⟩ := st_field Try.underlying27 hk1052
 obtain ⟨y1055, hq1056⟩ := hf1054 0 _ rfl
 obtain ⟨x6_8, rfl, hx6_8⟩ := f_int Try.underlying25 (fld1 hq1056 (by kernel_rfl) rfl)
 obtain ⟨y1057, hq1058⟩ := hf1054 1 _ rfl
 obtain ⟨x6_9, rfl, hx6_9⟩ := f_int Try.underlying3 (fld1 hq1058 (by kernel_rfl) rfl)
 obtain ⟨y1059, hq1060⟩ := hf1054 2 _ rfl
 obtain ⟨x6_10, rfl⟩ := f_bool Try.underlying4 (fld1 hq1060 (by kernel_rfl) rfl)
 obtain ⟨y1061, hq1062⟩ := hf1054 3 _ rfl
 obtain ⟨x6_11, rfl, hx6_11⟩ := f_int Try.underlying3 (fld1 hq1062 (by kernel_rfl) rfl)
 refine Calls.mono (fexact_any (E37.mk x0_0 x0_1 x0_2 x0_3 x0_4 x0_5 x0_6 x0_7 x0_8) _ _ x2 x3 x4 x5_0 _ _ x5_2 x6_0 x6_1 x6_2 x6_3 x6_4 x6_5 x6_6 x6_7 x6_8 x6_9 x6_10 x6_11 _ Rx5_1 Rx1 hx5_0 hx6_4) fun e W' he => ?_
 obtain ⟨_, rfl, rfl, hS⟩ := he
 exact ⟨_, rfl, law_post Try_laid (by kernel_rfl) rfl Try.underlying4 rfl hW' rfl rfl rfl hS.below⟩

/-- FaultExact: the statement. -/
theorem faultExact_holds : Rows.FaultExactSaid :=
 OpenClaim.holds_of_wide 6 Try.f6 rfl rfl rfl rfl rfl rfl rfl ⟨rfl, rfl, rfl, rfl, rfl⟩ rfl rfl rfl rfl rfl (by kernel_rfl) Try.func6 (by kernel_rfl)
  (of_decide_eq_true (by kernel_rfl)) (by unfold Func.isWrapper; first | (rw [if_pos (by decide +kernel)]; kernel_rfl) | (rw [if_neg (by decide +kernel)]; exact ⟨rfl, rfl⟩))
  (fun os started H enc _ => faultExact_lifted os started H enc)
end Go.Proofs.Ytkejcnhfbfgphaa

/- QueueExact: whatever the queue, the pace, the numbers and the command, the call returns true. No condition. -/
import Derived.Test.YtjjjmpkmjicpbaaQ2
import Derived.Test.YtjjjmpkmjicpbaaW16
namespace Go.Proofs.Ytjjjmpkmjicpbaa
open Go.ChangeShapes Go.WideShapes Go.ChangeAt Go.RowKit
set_option linter.unusedVariables false

theorem Try_own : ownKnob Try.prog.godebug = none := by kernel_rfl
theorem Try_laid : laidOutB Try.prog = true := by kernel_rfl
theorem dec39 {H : Type} {enc : TypeId × Value → H} {base : Nat} {w : World} {spare : Nat → Bool} {held : Bool} {n : Nat} {cs : List Value} {y : DataW H × List MemPlace} (h : DataW.trod enc Try.prog w base spare held n 39 cs = some y) (hl : cs.length = 12) : ∃ x : E39, cs = enc39 x ∧ True := by
  obtain ⟨c0, l0, rfl, hl0⟩ := len_cons hl
  obtain ⟨c1, l1, rfl, hl1⟩ := len_cons hl0
  obtain ⟨c2, l2, rfl, hl2⟩ := len_cons hl1
  obtain ⟨c3, l3, rfl, hl3⟩ := len_cons hl2
  obtain ⟨c4, l4, rfl, hl4⟩ := len_cons hl3
  obtain ⟨c5, l5, rfl, hl5⟩ := len_cons hl4
  obtain ⟨c6, l6, rfl, hl6⟩ := len_cons hl5
  obtain ⟨c7, l7, rfl, hl7⟩ := len_cons hl6
  obtain ⟨c8, l8, rfl, hl8⟩ := len_cons hl7
  obtain ⟨c9, l9, rfl, hl9⟩ := len_cons hl8
  obtain ⟨c10, l10, rfl, hl10⟩ := len_cons hl9
  obtain ⟨c11, l11, rfl, hl11⟩ := len_cons hl10
  obtain rfl := len_nil hl11
  obtain ⟨-, m, hf⟩ := st_field Try.underlying39 h
  obtain ⟨y1064, hq1065⟩ := hf 0 _ rfl
  obtain ⟨c0, rfl, hc0⟩ := f_int Try.underlying3 (fld1 hq1065 (by kernel_rfl) rfl)
  obtain ⟨y1066, hq1067⟩ := hf 1 _ rfl
  obtain ⟨c1, rfl, hc1⟩ := f_int Try.underlying3 (fld1 hq1067 (by kernel_rfl) rfl)
  obtain ⟨y1068, hq1069⟩ := hf 2 _ rfl
  obtain ⟨c2, rfl, hc2⟩ := f_int Try.underlying3 (fld1 hq1069 (by kernel_rfl) rfl)
  obtain ⟨y1070, hq1071⟩ := hf 3 _ rfl
  obtain ⟨c3, rfl, hc3⟩ := f_int Try.underlying3 (fld1 hq1071 (by kernel_rfl) rfl)
  obtain ⟨y1072, hq1073⟩ := hf 4 _ rfl
  obtain ⟨c4, rfl, hc4⟩ := f_str Try.underlying9 (fld1 hq1073 (by kernel_rfl) rfl)
  obtain ⟨y1074, hq1075⟩ := hf 5 _ rfl
  obtain ⟨c5, rfl⟩ := f_bool Try.underlying4 (fld1 hq1075 (by kernel_rfl) rfl)
  obtain ⟨y1076, hq1077⟩ := hf 6 _ rfl
  obtain ⟨c6, rfl, hc6⟩ := f_int Try.underlying3 (fld1 hq1077 (by kernel_rfl) rfl)
  obtain ⟨y1078, hq1079⟩ := hf 7 _ rfl
  obtain ⟨c7, rfl, hc7⟩ := f_int Try.underlying3 (fld1 hq1079 (by kernel_rfl) rfl)
  obtain ⟨y1080, hq1081⟩ := hf 8 _ rfl
  have hk1082 := fldk (l' := [c8, c9, c10, c11]) hq1081 (by kernel_rfl : _ = 4) rfl
  obtain ⟨-, m1083, hf1084⟩ := st_field Try.underlying34 hk1082
  obtain ⟨y1085, hq1086⟩ := hf1084 0 _ rfl
  obtain ⟨c8, rfl, hc8⟩ := f_int Try.underlying32 (fld1 hq1086 (by kernel_rfl) rfl)
  obtain ⟨y1087, hq1088⟩ := hf1084 1 _ rfl
  obtain ⟨c9, rfl, hc9⟩ := f_int Try.underlying3 (fld1 hq1088 (by kernel_rfl) rfl)
  obtain ⟨y1089, hq1090⟩ := hf1084 2 _ rfl
  obtain ⟨c10, rfl⟩ := f_bool Try.underlying4 (fld1 hq1090 (by kernel_rfl) rfl)
  obtain ⟨y1091, hq1092⟩ := hf1084 3 _ rfl
  obtain ⟨c11, rfl, hc11⟩ := f_int Try.underlying3 (fld1 hq1092 (by kernel_rfl) rfl)
  exact ⟨⟨c0, c1, c2, c3, c4, c5, c6, c7, c8, c9, c10, c11⟩, rfl, trivial⟩
set_option maxRecDepth 100000 in
theorem queueExact_lifted (os : Os) (started : os.Started) (H : Type) (enc : TypeId × Value → H) :
    ReturnsInHanded {} Try.checked os 9 .any (Rows.queueExactSpec.pre6 enc Try.prog Try.f9 Rows.queueExactRow.domain false) (Rows.queueExactSpec.post enc Try.prog Try.f9 false true false false) := by
  refine returnsInHanded_of_change (C := Try.checked) Try_own started (by kernel_rfl) Try.func9
    (ChangeSpec.witness6 (enc := enc) (C := Try.checked) false ⟨#[], #[.agg #[.int .i64 0, .int .i64 0, .int .i64 0, .slice none 0 0], .agg #[.int .i64 0, .int .i64 0, .int .i64 0], .int .i64 0, .agg #[.int .i64 0, .int .i64 0, .int .i64 0, .int .i64 0, .string ⟨#[]⟩, .bool false, .int .i64 0, .int .i64 0, .int .i64 0, .int .i64 0, .bool false, .int .i64 0], .int .i64 0, .int .i64 0, .int .i64 0, .int .i64 0], []⟩ 8 (by kernel_rfl) (by kernel_rfl) (by kernel_rfl) (by kernel_rfl)) ?_
  intro W base args ds gs before hval0 hW hcnd _
  have hval : ∀ (j : Nat) t v, Try.f9.params[j]? = some t → args[j]? = some v → Value.okWide Try.prog W .any base t v := hval0
  have hW' := hW
  obtain ⟨p, q, hA0, hV, rfl, hfz, hnd⟩ := hW
  have r0 : DataW.TrodAll enc Try.prog W 0 (fun _ => true) true Try.f9.params.toList args.toList ds p := hA0
  rw [Try.params9] at r0 hval
  obtain ⟨v0, vs0, d0, ds0, p0, q0, hargs, rfl, rfl, h0, r1⟩ := trodAll_cons r0
  obtain ⟨v1, vs1, d1, ds1, p1, q1, rfl, rfl, rfl, h1, r2⟩ := trodAll_cons r1
  obtain ⟨v2, vs2, d2, ds2, p2, q2, rfl, rfl, rfl, h2, r3⟩ := trodAll_cons r2
  obtain ⟨v3, vs3, d3, ds3, p3, q3, rfl, rfl, rfl, h3, r4⟩ := trodAll_cons r3
  obtain ⟨v4, vs4, d4, ds4, p4, q4, rfl, rfl, rfl, h4, r5⟩ := trodAll_cons r4
  obtain ⟨v5, vs5, d5, ds5, p5, q5, rfl, rfl, rfl, h5, r6⟩ := trodAll_cons r5
  obtain ⟨v6, vs6, d6, ds6, p6, q6, rfl, rfl, rfl, h6, r7⟩ := trodAll_cons r6
  obtain ⟨v7, vs7, d7, ds7, p7, q7, rfl, rfl, rfl, h7, r8⟩ := trodAll_cons r7
  obtain ⟨rfl, rfl, rfl⟩ := trodAll_nil r8
  obtain rfl : args = #[v0, v1, v2, v3, v4, v5, v6, v7] := by cases args; simp_all
  obtain ⟨rfl, rfl⟩ := trodVars_none hV
  obtain ⟨l, m0, rfl, hl, hf0⟩ := open_st Try.underlying25 (N := 4) (by kernel_rfl) (hval 0 25 v0 rfl rfl) h0
  obtain ⟨x0_0, l0_0, rfl, hl0_0⟩ := len_cons hl
  obtain ⟨x0_1, l0_1, rfl, hl0_1⟩ := len_cons hl0_0
  obtain ⟨x0_2, l0_2, rfl, hl0_2⟩ := len_cons hl0_1
  obtain ⟨x0_3, l0_3, rfl, hl0_3⟩ := len_cons hl0_2
  obtain rfl := len_nil hl0_3
  obtain ⟨y1021, hq1022⟩ := hf0 0 _ rfl
  obtain ⟨x0_0, rfl, hx0_0⟩ := f_int Try.underlying3 (fld1 hq1022 (by kernel_rfl) rfl)
  obtain ⟨y1023, hq1024⟩ := hf0 1 _ rfl
  obtain ⟨x0_1, rfl, hx0_1⟩ := f_int Try.underlying3 (fld1 hq1024 (by kernel_rfl) rfl)
  obtain ⟨y1025, hq1026⟩ := hf0 2 _ rfl
  obtain ⟨x0_2, rfl, hx0_2⟩ := f_int Try.underlying3 (fld1 hq1026 (by kernel_rfl) rfl)
  obtain ⟨y1027, hq1028⟩ := hf0 3 _ rfl
  obtain ⟨Lx0_3, Rx0_3, Ix0_3, Mx0_3⟩ := f_list (size := 12) (encE := enc39) (good := fun _ => True) Try.underlying23 (by kernel_rfl) (by decide) enc39_len (fun n cs y hy hl => dec39 hy hl) (fld1 hq1028 (by kernel_rfl) rfl)
  obtain ⟨l, m1, rfl, hl, hf1⟩ := open_st Try.underlying27 (N := 3) (by kernel_rfl) (hval 1 27 v1 rfl rfl) h1
  obtain ⟨x1_0, l1_0, rfl, hl1_0⟩ := len_cons hl
  obtain ⟨x1_1, l1_1, rfl, hl1_1⟩ := len_cons hl1_0
  obtain ⟨x1_2, l1_2, rfl, hl1_2⟩ := len_cons hl1_1
  obtain rfl := len_nil hl1_2
  obtain ⟨y1029, hq1030⟩ := hf1 0 _ rfl
  obtain ⟨x1_0, rfl, hx1_0⟩ := f_int Try.underlying3 (fld1 hq1030 (by kernel_rfl) rfl)
  obtain ⟨y1031, hq1032⟩ := hf1 1 _ rfl
  obtain ⟨x1_1, rfl, hx1_1⟩ := f_int Try.underlying3 (fld1 hq1032 (by kernel_rfl) rfl)
  obtain ⟨y1033, hq1034⟩ := hf1 2 _ rfl
  obtain ⟨x1_2, rfl, hx1_2⟩ := f_int Try.underlying3 (fld1 hq1034 (by kernel_rfl) rfl)
  obtain ⟨x2, rfl, -, -, w2⟩ := open_int Try.underlying3 (hval 2 3 v2 rfl rfl) h2
  have hx2 : i64 x2 := by simp [Lit.wf, IntKind.min, IntKind.max, IntKind.signed, IntKind.bits] at w2; exact ⟨by omega, by omega⟩
  obtain ⟨l, m3, rfl, hl, hf3⟩ := open_st Try.underlying39 (N := 12) (by kernel_rfl) (hval 3 39 v3 rfl rfl) h3
  obtain ⟨x3_0, l3_0, rfl, hl3_0⟩ := len_cons hl
  obtain ⟨x3_1, l3_1, rfl, hl3_1⟩ := len_cons hl3_0
  obtain ⟨x3_2, l3_2, rfl, hl3_2⟩ := len_cons hl3_1
  obtain ⟨x3_3, l3_3, rfl, hl3_3⟩ := len_cons hl3_2
  obtain ⟨x3_4, l3_4, rfl, hl3_4⟩ := len_cons hl3_3
  obtain ⟨x3_5, l3_5, rfl, hl3_5⟩ := len_cons hl3_4
  obtain ⟨x3_6, l3_6, rfl, hl3_6⟩ := len_cons hl3_5
  obtain ⟨x3_7, l3_7, rfl, hl3_7⟩ := len_cons hl3_6
  obtain ⟨x3_8, l3_8, rfl, hl3_8⟩ := len_cons hl3_7
  obtain ⟨x3_9, l3_9, rfl, hl3_9⟩ := len_cons hl3_8
  obtain ⟨x3_10, l3_10, rfl, hl3_10⟩ := len_cons hl3_9
  obtain ⟨x3_11, l3_11, rfl, hl3_11⟩ := len_cons hl3_10
  obtain rfl := len_nil hl3_11
  obtain ⟨y1035, hq1036⟩ := hf3 0 _ rfl
  obtain ⟨x3_0, rfl, hx3_0⟩ := f_int Try.underlying3 (fld1 hq1036 (by kernel_rfl) rfl)
  obtain ⟨y1037, hq1038⟩ := hf3 1 _ rfl
  obtain ⟨x3_1, rfl, hx3_1⟩ := f_int Try.underlying3 (fld1 hq1038 (by kernel_rfl) rfl)
  obtain ⟨y1039, hq1040⟩ := hf3 2 _ rfl
  obtain ⟨x3_2, rfl, hx3_2⟩ := f_int Try.underlying3 (fld1 hq1040 (by kernel_rfl) rfl)
  obtain ⟨y1041, hq1042⟩ := hf3 3 _ rfl
  obtain ⟨x3_3, rfl, hx3_3⟩ := f_int Try.underlying3 (fld1 hq1042 (by kernel_rfl) rfl)
  obtain ⟨y1043, hq1044⟩ := hf3 4 _ rfl
  obtain ⟨x3_4, rfl, hx3_4⟩ := f_str Try.underlying9 (fld1 hq1044 (by kernel_rfl) rfl)
  obtain ⟨y1045, hq1046⟩ := hf3 5 _ rfl
  obtain ⟨x3_5, rfl⟩ := f_bool Try.underlying4 (fld1 hq1046 (by kernel_rfl) rfl)
  obtain ⟨y1047, hq1048⟩ := hf3 6 _ rfl
  obtain ⟨x3_6, rfl, hx3_6⟩ := f_int Try.underlying3 (fld1 hq1048 (by kernel_rfl) rfl)
  obtain ⟨y1049, hq1050⟩ := hf3 7 _ rfl
  obtain ⟨x3_7, rfl, hx3_7⟩ := f_int Try.underlying3 (fld1 hq1050 (by kernel_rfl) rfl)
  obtain ⟨y1051, hq1052⟩ := hf3 8 _ rfl
  have hk1053 := fldk (l' := [x3_8, x3_9, x3_10, x3_11]) hq1052 (by kernel_rfl : _ = 4) rfl
  obtain ⟨-, m1054, hf1055⟩ := st_field Try.underlying34 hk1053
  obtain ⟨y1056, hq1057⟩ := hf1055 0 _ rfl
  obtain ⟨x3_8, rfl, hx3_8⟩ := f_int Try.underlying32 (fld1 hq1057 (by kernel_rfl) rfl)
  obtain ⟨y1058, hq1059⟩ := hf1055 1 _ rfl
  obtain ⟨x3_9, rfl, hx3_9⟩ := f_int Try.underlying3 (fld1 hq1059 (by kernel_rfl) rfl)
  obtain ⟨y1060, hq1061⟩ := hf1055 2 _ rfl
  obtain ⟨x3_10, rfl⟩ := f_bool Try.underlying4 (fld1 hq1061 (by kernel_rfl) rfl)
  obtain ⟨y1062, hq1063⟩ := hf1055 3 _ rfl
  obtain ⟨x3_11, rfl, hx3_11⟩ := f_int Try.underlying3 (fld1 hq1063 (by kernel_rfl) rfl)
  obtain ⟨x4, rfl, -, -, w4⟩ := open_int Try.underlying3 (hval 4 3 v4 rfl rfl) h4
  have hx4 : i64 x4 := by simp [Lit.wf, IntKind.min, IntKind.max, IntKind.signed, IntKind.bits] at w4; exact ⟨by omega, by omega⟩
  obtain ⟨x5, rfl, -, -, w5⟩ := open_int Try.underlying3 (hval 5 3 v5 rfl rfl) h5
  have hx5 : i64 x5 := by simp [Lit.wf, IntKind.min, IntKind.max, IntKind.signed, IntKind.bits] at w5; exact ⟨by omega, by omega⟩
  obtain ⟨x6, rfl, -, -, w6⟩ := open_int Try.underlying3 (hval 6 3 v6 rfl rfl) h6
  have hx6 : i64 x6 := by simp [Lit.wf, IntKind.min, IntKind.max, IntKind.signed, IntKind.bits] at w6; exact ⟨by omega, by omega⟩
  obtain ⟨x7, rfl, -, -, w7⟩ := open_int Try.underlying3 (hval 7 3 v7 rfl rfl) h7
  have hx7 : i64 x7 := by simp [Lit.wf, IntKind.min, IntKind.max, IntKind.signed, IntKind.bits] at w7; exact ⟨by omega, by omega⟩
  refine Calls.mono (exact_any x0_0 x0_1 x0_2 Lx0_3 x1_0 x1_1 x1_2 x2 ⟨x3_0, x3_1, x3_2, x3_3, x3_4, x3_5, x3_6, x3_7, x3_8, x3_9, x3_10, x3_11⟩ x4 x5 x6 x7 _ _ Rx0_3 Mx0_3) fun e W' he => ?_
  obtain ⟨_, rfl, rfl, hS⟩ := he
  exact ⟨_, rfl, law_post Try_laid (by kernel_rfl) rfl Try.underlying4 rfl hW' rfl rfl rfl hS.below⟩

/-- QueueExact: the statement. -/
theorem queueExact_holds : Rows.QueueExactSaid :=
  OpenClaim.holds_of_wide 9 Try.f9 rfl rfl rfl rfl rfl rfl rfl ⟨rfl, rfl, rfl, rfl, rfl⟩ rfl rfl rfl rfl rfl (by kernel_rfl) Try.func9 (by kernel_rfl)
    (of_decide_eq_true (by kernel_rfl)) (by unfold Func.isWrapper; first | (rw [if_pos (by decide +kernel)]; kernel_rfl) | (rw [if_neg (by decide +kernel)]; exact ⟨rfl, rfl⟩))
    (fun os started H enc _ => queueExact_lifted os started H enc)
end Go.Proofs.Ytjjjmpkmjicpbaa

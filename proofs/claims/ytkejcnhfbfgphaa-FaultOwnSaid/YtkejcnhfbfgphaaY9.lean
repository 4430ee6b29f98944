/- walks, printed by wip/gen -/
import Derived.Test.YtkejcnhfbfgphaaY4
import Derived.Test.YtkejcnhfbfgphaaPI
namespace Go.Proofs.Ytkejcnhfbfgphaa
open Go.RowKit
set_option linter.unusedVariables false
set_option linter.unusedSimpArgs false

set_option maxHeartbeats 2000000 in
set_option maxRecDepth 100000 in
theorem own_any (v : Value) (L : List Int) (n1 : Int) (w0 : World) (hv : Rd w0 1 v (L).length (cells encI (L))) (hL : L.length ≤ 9223372036854775807) :
  Fn Try.prog 8 #[v, .int .i64 n1] w0 (fun v w' => v = .bool true ∧ Sat w0 w' []) := by
 obtain ⟨Av, cv, rfl⟩ := Rd.form hv
 refine c_enter (N := 108) (l := [_, _]) Try.func8 rfl rfl (fun a w hF hS => ?_)
 replace hS := hS.addRo hv
 refine c_seq ?_
 refine c_region ?_
 refine asN hF rfl rfl rfl rfl rfl ?_; clear hF; intro a hF
 refine wpList_nil ?_
 refine then_n ?_
 refine c_seq ?_
 refine c_region ?_
 refine mvN hF rfl rfl rfl rfl rfl ?_; clear hF; intro a hF
 refine seq_wp (wn_none rfl) (wp_call (vs := [_]) hF rfl rfl rfl rfl cf28 (drive_any _ L _ (hS.rdRo 0 rfl) (by first | omega | (simp; done) | (simp; omega))) ?_)
 clear hF; rintro _ w ⟨st1085, v1086, Lq1087, rm1088, rfl, hd1089, hS1⟩ a hF
 replace hS := hS.callB hS1 rfl; clear hS1
 obtain ⟨Av1086, cv1086, rfl⟩ := hS.form 0 rfl
 obtain ⟨hd1089d, hd1089s⟩ := hd1089; have hd1089i := okD_I hd1089d
 refine seq_wp (wn_none rfl) (wp_alloc (cs := #[_, _, _]) hF hS rfl rfl rfl zr43 rfl ?_)
 clear hF hS; intro a w g1090 hF hS
 refine seq_wp (wn_none rfl) (wp_store (cs' := #[_, _, _]) hF hS rfl rfl rfl rfl 0 rfl sz43 (by simp [Value.cells, Value.oneCell']) (by simp [Value.cells]) rfl ?_)
 clear hF hS; intro a w hF hS
 refine wpList_nil ?_
 refine then_n ?_
 refine c_seq ?_
 refine c_region ?_
 refine seq_yl hF (wn_none rfl) rfl rfl (yl_loadK (rs := [_, _, _]) (fun _ h => h ▸ hS) hF rfl rfl 0 rfl ag43 sz43 rfl rfl) ?_; clear hF; intro a hF
 refine mvN hF rfl rfl rfl rfl rfl ?_; clear hF; intro a hF
 refine seq_wp (wn_none rfl) (wp_call (vs := [_, _]) hF rfl rfl rfl rfl cf29 (command_any st1085 _ _ (n1) _ (by omega) (by omega)) ?_)
 clear hF; rintro _ w ⟨k1091, sx1092, cx1093, x1094, fu1095, er1096, dn1097, hfx1098, dl1099, rfl, hcm1100, hS1⟩ a hF
 replace hS := hS.callB hS1 rfl; clear hS1
 refine seq_wp (wn_none rfl) (wp_alloc (cs := #[_, _, _, _, _, _, _, _, _, _, _, _]) hF hS rfl rfl rfl zr45 rfl ?_)
 clear hF hS; intro a w g1101 hF hS
 refine seq_wp (wn_none rfl) (wp_store (cs' := #[_, _, _, _, _, _, _, _, _, _, _, _]) hF hS rfl rfl rfl rfl 0 rfl sz45 (by simp [Value.cells, Value.oneCell']) (by simp [Value.cells]) rfl ?_)
 clear hF hS; intro a w hF hS
 refine wpList_nil ?_
 refine then_n ?_
 refine c_seq ?_
 refine c_region ?_
 refine seq_yl hF (wn_none rfl) rfl rfl (yl_loadK (rs := [_, _, _]) (fun _ h => h ▸ hS) hF rfl rfl 1 rfl ag43 sz43 rfl rfl) ?_; clear hF; intro a hF
 refine seq_yl hF (wn_none rfl) rfl rfl (yl_loadK (rs := [_, _, _, _, _, _, _, _, _, _, _, _]) (fun _ h => h ▸ hS) hF rfl rfl 0 rfl ag45 sz45 rfl rfl) ?_; clear hF; intro a hF
 refine seq_wp (wn_none rfl) (wp_call (vs := [_, _]) hF rfl rfl rfl rfl cf21 (run_any st1085 _ Lq1087 (rm1088) (0 : Int) (k1091) (sx1092) (cx1093) x1094 fu1095 (0 : Int) (0 : Int) (er1096) (dn1097) hfx1098 (dl1099) _ (hS.rdRow 2 rfl) (by first | omega | (simp; done)) (by first | omega | (simp; done)) (by first | omega | (simp; done))) ?_)
 clear hF; rintro _ w ⟨st1102, v1103, Lq1104, rm1105, dt1106, e1107, rfl, hq1108, hS1⟩ a hF
 replace hS := hS.callB hS1 rfl; clear hS1
 obtain ⟨Av1103, cv1103, rfl⟩ := hS.form 0 rfl
 have hq1108b := runF_bd (by omega) (by omega) hq1108
 refine mvN hF rfl rfl rfl rfl rfl ?_; clear hF; intro a hF
 refine seq_yl hF (wn_none rfl) rfl rfl (yl_extract hF rfl rfl rfl) ?_; clear hF; intro a hF
 refine seq_yl hF (wn_none rfl) rfl rfl (yl_extract hF rfl rfl rfl) ?_; clear hF; intro a hF
 refine seq_yl hF (wn_none rfl) rfl rfl (yl_extract hF rfl rfl rfl) ?_; clear hF; intro a hF
 refine seq_wp (wn_none rfl) (wp_alloc (cs := #[_, _, _]) hF hS rfl rfl rfl zr43 rfl ?_)
 clear hF hS; intro a w g1109 hF hS
 refine seq_wp (wn_none rfl) (wp_store (cs' := #[_, _, _]) hF hS rfl rfl rfl rfl 0 rfl sz43 (by simp [Value.cells, Value.oneCell']) (by simp [Value.cells]) rfl ?_)
 clear hF hS; intro a w hF hS
 refine asN hF rfl rfl rfl rfl rfl ?_; clear hF; intro a hF
 refine asN hF rfl rfl rfl rfl rfl ?_; clear hF; intro a hF
 refine wpList_nil ?_
 refine then_n ?_
 refine c_seq ?_
 refine c_seq ?_
 refine c_region ?_
 refine mvN hF rfl rfl rfl rfl rfl ?_; clear hF; intro a hF
 refine seq_yl hF (wn_none rfl) rfl rfl (yl_bin hF rfl rfl rfl rfl (fun _ => run_eql)) ?_; clear hF; intro a hF
 refine wpList_nil ?_
 refine then_n ?_
 refine c_cond hF rfl (fun hc1110 => ?_) (fun hc1110 => ?_)
 ·first | (replace hc1110 := of_decide_eq_true hc1110) | (replace hc1110 := of_decide_eq_false (bnot_t hc1110)) | (replace hc1110 := bnot_t hc1110) | skip
  try (have hc1110x := hc1110; simp only [okS, okI, okW, okP] at hc1110x)
  refine c_seq ?_
  refine c_region ?_
  refine seq_wp (wn_none rfl) (wp_call (vs := []) hF rfl rfl rfl rfl cf18 (awake_any _) ?_)
  clear hF; rintro _ w ⟨rfl, hS1⟩ a hF
  replace hS := hS.callB hS1 rfl; clear hS1
  refine asN hF rfl rfl rfl rfl rfl ?_; clear hF; intro a hF
  refine wpList_nil ?_
  refine then_n ?_
  refine wp_ret ?_
  refine then_r ?_
  refine ret_t hF rfl rfl ?_
  exact ⟨_, rfl, rfl, (hS.sub [] (by decide) (by first | rfl | simp) (by simp))⟩
 ·first | (replace hc1110 := of_decide_eq_false hc1110) | (replace hc1110 := of_decide_eq_true (bnot_f hc1110)) | (replace hc1110 := bnot_f hc1110) | skip
  try (have hc1110x := hc1110; simp only [okS, okI, okW, okP] at hc1110x)
  refine wp_skip ?_
  refine then_n ?_
  refine c_seq ?_
  refine c_seq ?_
  refine c_region ?_
  refine seq_yl hF (wn_none rfl) rfl rfl (yl_fieldAddr hF rfl rfl (fun w => by kernel_rfl : ∀ w, (Instr.fieldAt 45 (.pointer (some ⟨g1101, 0, none⟩)) 1).run Try.prog w = .ok (.pointer (some ⟨g1101, 1, none⟩)) w)) ?_; clear hF; intro a hF
  refine seq_yl hF (wn_none rfl) rfl rfl (yl_load (fun _ h => h ▸ hS) hF rfl rfl 2 rfl ag3 rfl) ?_; clear hF; intro a hF
  refine seq_yl hF (wn_none rfl) rfl rfl (yl_bin hF rfl rfl rfl rfl (fun _ => run_neq)) ?_; clear hF; intro a hF
  refine mvN hF rfl rfl rfl rfl rfl ?_; clear hF; intro a hF
  refine fr_split hF (fun hc1111 hF => ?_) (fun hc1111 hF => ?_)
  ·first | (replace hc1111 := of_decide_eq_true hc1111) | (replace hc1111 := of_decide_eq_false (bnot_t hc1111)) | (replace hc1111 := bnot_t hc1111) | skip
   try (have hc1111x := hc1111; simp only [okS, okI, okW, okP] at hc1111x)
   refine skF hF rfl rfl rfl rfl rfl rfl ?_; clear hF; intro a hF
   refine skF hF rfl rfl rfl rfl rfl rfl ?_; clear hF; intro a hF
   refine seq_yl hF (wn_none rfl) rfl rfl (pkT hF rfl rfl rfl) ?_; clear hF; intro a hF
   refine wpList_nil ?_
   refine then_n ?_
   refine c_cond_t hF rfl ?_
   refine c_seq ?_
   refine c_region ?_
   refine seq_yl hF (wn_none rfl) rfl rfl (yl_loadK (rs := [_, _, _]) (fun _ h => h ▸ hS) hF rfl rfl 0 rfl ag43 sz43 rfl rfl) ?_; clear hF; intro a hF
   refine seq_yl hF (wn_none rfl) rfl rfl (yl_loadK (rs := [_, _, _]) (fun _ h => h ▸ hS) hF rfl rfl 3 rfl ag43 sz43 rfl rfl) ?_; clear hF; intro a hF
   refine seq_wp (wn_none rfl) (wp_call (vs := [_, _]) hF rfl rfl rfl rfl cf27 (sameD_any st1102 _ Lq1104 (rm1105) st1085 _ Lq1087 (rm1088) _ (hS.rdRow 1 rfl) (hS.rdRow 4 rfl) (by first | omega | (simp; done)) (by first | omega | (simp; done))) ?_)
   clear hF; rintro _ w ⟨rfl, hS1⟩ a hF
   replace hS := hS.callB hS1 rfl; clear hS1
   replace hF := fr_set (b' := true) hF (by rw [decide_eq_true_eq]; exact own1 hq1108 (by assumption) (by first | exact .inr (by omega) | exact .inl (by omega)) (by omega))
   refine mvN hF rfl rfl rfl rfl rfl ?_; clear hF; intro a hF
   refine seq_wp (wn_t hF rfl rfl rfl rfl) (wp_call (vs := []) hF rfl rfl rfl rfl cf18 (awake_any _) ?_)
   clear hF; rintro _ w ⟨rfl, hS1⟩ a hF
   replace hS := hS.callB hS1 rfl; clear hS1
   refine seq_yl hF (wn_none rfl) rfl rfl (pkT hF rfl rfl rfl) ?_; clear hF; intro a hF
   refine asN hF rfl rfl rfl rfl rfl ?_; clear hF; intro a hF
   refine wpList_nil ?_
   refine then_n ?_
   refine wp_ret ?_
   refine then_r ?_
   refine ret_t hF rfl rfl ?_
   exact ⟨_, rfl, rfl, (hS.sub [] (by decide) (by first | rfl | simp) (by simp))⟩
  ·first | (replace hc1111 := of_decide_eq_false hc1111) | (replace hc1111 := of_decide_eq_true (bnot_f hc1111)) | (replace hc1111 := bnot_f hc1111) | skip
   try (have hc1111x := hc1111; simp only [okS, okI, okW, okP] at hc1111x)
   refine seq_yl hF (wn_t hF rfl rfl rfl rfl) rfl rfl (yl_move hF rfl rfl) ?_; clear hF; intro a hF
   refine seq_yl hF (wn_t hF rfl rfl rfl rfl) rfl rfl (yl_bin hF rfl rfl rfl rfl (fun _ => run_eql)) ?_; clear hF; intro a hF
   refine seq_yl hF (wn_none rfl) rfl rfl (pkF hF rfl rfl rfl) ?_; clear hF; intro a hF
   refine wpList_nil ?_
   refine then_n ?_
   refine c_cond hF rfl (fun hc1112 => ?_) (fun hc1112 => ?_)
   ·first | (replace hc1112 := of_decide_eq_true hc1112) | (replace hc1112 := of_decide_eq_false (bnot_t hc1112)) | (replace hc1112 := bnot_t hc1112) | skip
    try (have hc1112x := hc1112; simp only [okS, okI, okW, okP] at hc1112x)
    refine c_seq ?_
    refine c_region ?_
    refine seq_yl hF (wn_none rfl) rfl rfl (yl_loadK (rs := [_, _, _]) (fun _ h => h ▸ hS) hF rfl rfl 0 rfl ag43 sz43 rfl rfl) ?_; clear hF; intro a hF
    refine seq_yl hF (wn_none rfl) rfl rfl (yl_loadK (rs := [_, _, _]) (fun _ h => h ▸ hS) hF rfl rfl 3 rfl ag43 sz43 rfl rfl) ?_; clear hF; intro a hF
    refine seq_wp (wn_none rfl) (wp_call (vs := [_, _]) hF rfl rfl rfl rfl cf27 (sameD_any st1102 _ Lq1104 (rm1105) st1085 _ Lq1087 (rm1088) _ (hS.rdRow 1 rfl) (hS.rdRow 4 rfl) (by first | omega | (simp; done)) (by first | omega | (simp; done))) ?_)
    clear hF; rintro _ w ⟨rfl, hS1⟩ a hF
    replace hS := hS.callB hS1 rfl; clear hS1
    replace hF := fr_set (b' := true) hF (by rw [decide_eq_true_eq]; exact own1 hq1108 (by assumption) (by first | exact .inr (by omega) | exact .inl (by omega)) (by omega))
    refine mvN hF rfl rfl rfl rfl rfl ?_; clear hF; intro a hF
    refine seq_wp (wn_t hF rfl rfl rfl rfl) (wp_call (vs := []) hF rfl rfl rfl rfl cf18 (awake_any _) ?_)
    clear hF; rintro _ w ⟨rfl, hS1⟩ a hF
    replace hS := hS.callB hS1 rfl; clear hS1
    refine seq_yl hF (wn_none rfl) rfl rfl (pkT hF rfl rfl rfl) ?_; clear hF; intro a hF
    refine asN hF rfl rfl rfl rfl rfl ?_; clear hF; intro a hF
    refine wpList_nil ?_
    refine then_n ?_
    refine wp_ret ?_
    refine then_r ?_
    refine ret_t hF rfl rfl ?_
    exact ⟨_, rfl, rfl, (hS.sub [] (by decide) (by first | rfl | simp) (by simp))⟩
   ·first | (replace hc1112 := of_decide_eq_false hc1112) | (replace hc1112 := of_decide_eq_true (bnot_f hc1112)) | (replace hc1112 := bnot_f hc1112) | skip
    try (have hc1112x := hc1112; simp only [okS, okI, okW, okP] at hc1112x)
    refine wp_skip ?_
    refine then_n ?_
    refine c_seq ?_
    refine c_seq ?_
    refine c_region ?_
    refine asN hF rfl rfl rfl rfl rfl ?_; clear hF; intro a hF
    refine wpList_nil ?_
    refine then_n ?_
    refine wp_block ?_
    have hfit := own_fit hq1108 (by assumption)
    obtain ⟨hdx, hsx, hown⟩ := own2 hd1089d hfit (by omega) hq1108 (by assumption)
    obtain ⟨hs9, hx9, hW9⟩ := fits_W hfit (by omega)
    have hs9x := hs9; simp only [okS, okI] at hs9x
    have hdxi := okD_I hdx
    refine c_loop (fun m a w => ∃ (i : Nat), m = 48 - i ∧ ((i : Int) ≤ (st1085.size : Int) / 8) ∧ Fr 108 a [(5, .pointer (some ⟨g1090, 0, none⟩)), (6, .pointer (some ⟨g1101, 0, none⟩)), (7, .pointer (some ⟨g1109, 0, none⟩)), (10, .int .i64 ((i : Nat) : Int))] ∧ Sat w0 w (.box g1090 43 #[.string st1085, .slice Av1086 (Lq1087).length cv1086, .int .i64 (rm1088)] :: .box g1101 45 #[.int .i64 (0 : Int), .int .i64 (k1091), .int .i64 (sx1092), .int .i64 (cx1093), .string x1094, .bool fu1095, .int .i64 (0 : Int), .int .i64 (0 : Int), .int .i64 (er1096), .int .i64 (dn1097), .bool hfx1098, .int .i64 (dl1099)] :: .box g1109 43 #[.string st1102, .slice Av1103 (Lq1104).length cv1103, .int .i64 (rm1105)] :: .row 67 2 (.slice Av1086 (Lq1087).length cv1086) (Lq1087).length (cells enc67 (Lq1087)) :: .row 67 2 (.slice Av1103 (Lq1104).length cv1103) (Lq1104).length (cells enc67 (Lq1104)) :: [])) (48 - 0) ?_ ?_
    ·exact ⟨0, rfl, (by omega), hF.to [5, 6, 7, 10] rfl, (hS.sub [3, 2, 0, 4, 1] (by decide) (by first | rfl | simp) (by simp))⟩
    ·clear hF hS; try clear hSS
     clear a w; rintro m a w ⟨i, rfl, hinv, hF, hS⟩
     have hi : (i : Int) ≤ _ := hinv
     refine c_seq ?_
     refine c_seq ?_
     refine c_region ?_
     refine mvN hF rfl rfl rfl rfl rfl ?_; clear hF; intro a hF
     refine seq_yl hF (wn_none rfl) rfl rfl (yl_loadK (rs := [_, _, _]) (fun _ h => h ▸ hS) hF rfl rfl 0 rfl ag43 sz43 rfl rfl) ?_; clear hF; intro a hF
     refine seq_wp (wn_none rfl) (wp_call (vs := [_]) hF rfl rfl rfl rfl cf30 (secs_any st1085 _ _ _ (by omega)) ?_)
     clear hF; rintro _ w ⟨rfl, hS1⟩ a hF
     replace hS := hS.callB hS1 rfl; clear hS1
     refine seq_yl hF (wn_none rfl) rfl rfl (yl_bin hF rfl rfl rfl rfl (fun _ => run_lss)) ?_; clear hF; intro a hF
     refine wpList_nil ?_
     refine then_n ?_
     refine c_cond hF rfl (fun hc1113 => ?_) (fun hc1113 => ?_)
     ·first | (replace hc1113 := of_decide_eq_true hc1113) | (replace hc1113 := of_decide_eq_false (bnot_t hc1113)) | (replace hc1113 := bnot_t hc1113) | skip
      try (have hc1113x := hc1113; simp only [okS, okI, okW, okP] at hc1113x)
      refine wp_skip ?_
      refine then_n ?_
      refine c_seq ?_
      refine wp_block ?_
      refine c_seq ?_
      refine c_region ?_
      refine seq_yl hF (wn_none rfl) rfl rfl (yl_loadK (rs := [_, _, _]) (fun _ h => h ▸ hS) hF rfl rfl 0 rfl ag43 sz43 rfl rfl) ?_; clear hF; intro a hF
      refine mvN hF rfl rfl rfl rfl rfl ?_; clear hF; intro a hF
      refine seq_wp (wn_none rfl) (wp_call (vs := [_, _, _]) hF rfl rfl rfl rfl cf31 (read2_any st1085 _ Lq1087 (rm1088) ((i : Nat) : Int) (1 : Int) _ (hS.rdRow 3 rfl) (by first | omega | (simp; done)) (by first | omega | (simp; done))) ?_)
      clear hF; rintro _ w ⟨rfl, hS1⟩ a hF
      replace hS := hS.callB hS1 rfl; clear hS1
      have hz1114 := readF_bd st1085 Lq1087 (rm1088) ((i : Nat) : Int) (1 : Int)
      have hra := read_one (t := (i : Int)) hd1089d (by unfold okS okI; omega)
      have hra1 : (readF st1085 Lq1087 rm1088 ((i : Nat) : Int) 1).1 = newest st1085 Lq1087 (i : Int) := by rw [hra]
      rw [hra1] at hF; have hna := newest_size hd1089d.2.2.2 (s := (i : Int)) (by unfold okS okI; omega)
      refine mvN hF rfl rfl rfl rfl rfl ?_; clear hF; intro a hF
      refine seq_yl hF (wn_none rfl) rfl rfl (yl_extract hF rfl rfl rfl) ?_; clear hF; intro a hF
      refine seq_yl hF (wn_none rfl) rfl rfl (yl_extract hF rfl rfl rfl) ?_; clear hF; intro a hF
      refine asN hF rfl rfl rfl rfl rfl ?_; clear hF; intro a hF
      refine asN hF rfl rfl rfl rfl rfl ?_; clear hF; intro a hF
      refine wpList_nil ?_
      refine then_n ?_
      refine c_seq ?_
      refine c_region ?_
      refine seq_yl hF (wn_none rfl) rfl rfl (yl_loadK (rs := [_, _, _]) (fun _ h => h ▸ hS) hF rfl rfl 2 rfl ag43 sz43 rfl rfl) ?_; clear hF; intro a hF
      refine mvN hF rfl rfl rfl rfl rfl ?_; clear hF; intro a hF
      refine seq_wp (wn_none rfl) (wp_call (vs := [_, _, _]) hF rfl rfl rfl rfl cf31 (read2_any st1102 _ Lq1104 (rm1105) ((i : Nat) : Int) (1 : Int) _ (hS.rdRow 4 rfl) (by first | omega | (simp; done)) (by first | omega | (simp; done))) ?_)
      clear hF; rintro _ w ⟨rfl, hS1⟩ a hF
      replace hS := hS.callB hS1 rfl; clear hS1
      have hz1115 := readF_bd st1102 Lq1104 (rm1105) ((i : Nat) : Int) (1 : Int)
      have hrb := read_one (t := (i : Int)) hdx (by unfold okS okI; omega)
      have hrb1 : (readF st1102 Lq1104 rm1105 ((i : Nat) : Int) 1).1 = newest st1102 Lq1104 (i : Int) := by rw [hrb]
      have hrb2 : (readF st1102 Lq1104 rm1105 ((i : Nat) : Int) 1).2 = true := by rw [hrb]
      rw [hrb1, hrb2] at hF; have ho := hown (i : Int) (by omega)
      refine mvN hF rfl rfl rfl rfl rfl ?_; clear hF; intro a hF
      refine seq_yl hF (wn_none rfl) rfl rfl (yl_extract hF rfl rfl rfl) ?_; clear hF; intro a hF
      refine seq_yl hF (wn_none rfl) rfl rfl (yl_extract hF rfl rfl rfl) ?_; clear hF; intro a hF
      refine asN hF rfl rfl rfl rfl rfl ?_; clear hF; intro a hF
      refine asN hF rfl rfl rfl rfl rfl ?_; clear hF; intro a hF
      refine wpList_nil ?_
      refine then_n ?_
      refine c_seq ?_
      refine c_seq ?_
      refine c_region ?_
      refine mvN hF rfl rfl rfl rfl rfl ?_; clear hF; intro a hF
      refine seq_yl hF (wn_none rfl) rfl rfl (yl_un hF rfl rfl (fun _ => run_not)) ?_; clear hF; intro a hF
      refine wpList_nil ?_
      refine then_n ?_
      refine c_cond_f hF rfl ?_
      refine wp_skip ?_
      refine then_n ?_
      refine c_seq ?_
      refine c_seq ?_
      refine c_region ?_
      refine mvN hF rfl rfl rfl rfl rfl ?_; clear hF; intro a hF
      refine seq_yl hF (wn_none rfl) rfl rfl (yl_fieldAddr hF rfl rfl (fun w => by kernel_rfl : ∀ w, (Instr.fieldAt 45 (.pointer (some ⟨g1101, 0, none⟩)) 2).run Try.prog w = .ok (.pointer (some ⟨g1101, 2, none⟩)) w)) ?_; clear hF; intro a hF
      refine seq_yl hF (wn_none rfl) rfl rfl (yl_load (fun _ h => h ▸ hS) hF rfl rfl 1 rfl ag3 rfl) ?_; clear hF; intro a hF
      refine seq_yl hF (wn_none rfl) rfl rfl (yl_bin hF rfl rfl rfl rfl (fun _ => run_lss)) ?_; clear hF; intro a hF
      refine mvN hF rfl rfl rfl rfl rfl ?_; clear hF; intro a hF
      refine fr_split hF (fun hc1116 hF => ?_) (fun hc1116 hF => ?_)
      ·first | (replace hc1116 := of_decide_eq_true hc1116) | (replace hc1116 := of_decide_eq_false (bnot_t hc1116)) | (replace hc1116 := bnot_t hc1116) | skip
       try (have hc1116x := hc1116; simp only [okS, okI, okW, okP] at hc1116x)
       refine skF hF rfl rfl rfl rfl rfl rfl ?_; clear hF; intro a hF
       refine skF hF rfl rfl rfl rfl rfl rfl ?_; clear hF; intro a hF
       refine skF hF rfl rfl rfl rfl rfl rfl ?_; clear hF; intro a hF
       refine skF hF rfl rfl rfl rfl rfl rfl ?_; clear hF; intro a hF
       refine skF hF rfl rfl rfl rfl rfl rfl ?_; clear hF; intro a hF
       refine skF hF rfl rfl rfl rfl rfl rfl ?_; clear hF; intro a hF
       refine skF hF rfl rfl rfl rfl rfl rfl ?_; clear hF; intro a hF
       refine seq_yl hF (wn_none rfl) rfl rfl (pkT hF rfl rfl rfl) ?_; clear hF; intro a hF
       refine wpList_nil ?_
       refine then_n ?_
       refine c_cond_t hF rfl ?_
       refine c_seq ?_
       refine c_seq ?_
       refine c_region ?_
       refine mvN hF rfl rfl rfl rfl rfl ?_; clear hF; intro a hF
       refine mvN hF rfl rfl rfl rfl rfl ?_; clear hF; intro a hF
       refine seq_yl hF (wn_none rfl) rfl rfl (yl_bin hF rfl rfl rfl rfl (fun _ => run_str_neq)) ?_; clear hF; intro a hF
       replace hF := fr_set (b' := false) hF (by rw [decide_eq_false_iff_not]; refine not_not_intro ?_; rcases ho with h9 | ⟨h9, h8, _⟩; exact h9.symm; omega)
       refine wpList_nil ?_
       refine then_n ?_
       refine c_cond_f hF rfl ?_
       refine wp_skip ?_
       refine then_n ?_
       refine wp_exit ?_
       refine then_x ?_
       refine inb_x ?_
       refine then_n ?_
       refine c_region ?_
       refine mvN hF rfl rfl rfl rfl rfl ?_; clear hF; intro a hF
       refine seq_yl hF (wn_none rfl) rfl rfl (yl_bin hF rfl rfl rfl rfl (fun _ => run_inc (by omega))) ?_; clear hF; intro a hF
       refine asN hF rfl rfl rfl rfl rfl ?_; clear hF; intro a hF
       refine wpList_nil ?_
       refine then_n ?_
       exact ⟨_, (by omega), i + 1, rfl, (by omega), hF.to [5, 6, 7, 10] rfl, (hS.sub [0, 1, 2, 3, 4] (by decide) (by first | rfl | simp) (by simp))⟩
      ·first | (replace hc1116 := of_decide_eq_false hc1116) | (replace hc1116 := of_decide_eq_true (bnot_f hc1116)) | (replace hc1116 := bnot_f hc1116) | skip
       try (have hc1116x := hc1116; simp only [okS, okI, okW, okP] at hc1116x)
       refine seq_yl hF (wn_t hF rfl rfl rfl rfl) rfl rfl (yl_move hF rfl rfl) ?_; clear hF; intro a hF
       refine seq_yl hF (wn_t hF rfl rfl rfl rfl) rfl rfl (yl_fieldAddr hF rfl rfl (fun w => by kernel_rfl : ∀ w, (Instr.fieldAt 45 (.pointer (some ⟨g1101, 0, none⟩)) 2).run Try.prog w = .ok (.pointer (some ⟨g1101, 2, none⟩)) w)) ?_; clear hF; intro a hF
       refine seq_yl hF (wn_t hF rfl rfl rfl rfl) rfl rfl (yl_load (fun _ h => h ▸ hS) hF rfl rfl 1 rfl ag3 rfl) ?_; clear hF; intro a hF
       refine seq_yl hF (wn_t hF rfl rfl rfl rfl) rfl rfl (yl_fieldAddr hF rfl rfl (fun w => by kernel_rfl : ∀ w, (Instr.fieldAt 45 (.pointer (some ⟨g1101, 0, none⟩)) 3).run Try.prog w = .ok (.pointer (some ⟨g1101, 3, none⟩)) w)) ?_; clear hF; intro a hF
       refine seq_yl hF (wn_t hF rfl rfl rfl rfl) rfl rfl (yl_load (fun _ h => h ▸ hS) hF rfl rfl 1 rfl ag3 rfl) ?_; clear hF; intro a hF
       refine seq_yl hF (wn_t hF rfl rfl rfl rfl) rfl rfl (yl_bin hF rfl rfl rfl rfl (fun _ => run_add (by refine ⟨?_, ?_⟩ <;> omega))) ?_; clear hF; intro a hF
       refine seq_yl hF (wn_t hF rfl rfl rfl rfl) rfl rfl (yl_bin hF rfl rfl rfl rfl (fun _ => run_geq)) ?_; clear hF; intro a hF
       refine seq_yl hF (wn_none rfl) rfl rfl (pkF hF rfl rfl rfl) ?_; clear hF; intro a hF
       refine wpList_nil ?_
       refine then_n ?_
       refine c_cond hF rfl (fun hc1117 => ?_) (fun hc1117 => ?_)
       ·first | (replace hc1117 := of_decide_eq_true hc1117) | (replace hc1117 := of_decide_eq_false (bnot_t hc1117)) | (replace hc1117 := bnot_t hc1117) | skip
        try (have hc1117x := hc1117; simp only [okS, okI, okW, okP] at hc1117x)
        refine c_seq ?_
        refine c_seq ?_
        refine c_region ?_
        refine mvN hF rfl rfl rfl rfl rfl ?_; clear hF; intro a hF
        refine mvN hF rfl rfl rfl rfl rfl ?_; clear hF; intro a hF
        refine seq_yl hF (wn_none rfl) rfl rfl (yl_bin hF rfl rfl rfl rfl (fun _ => run_str_neq)) ?_; clear hF; intro a hF
        replace hF := fr_set (b' := false) hF (by rw [decide_eq_false_iff_not]; refine not_not_intro ?_; rcases ho with h9 | ⟨h9, h8, _⟩; exact h9.symm; omega)
        refine wpList_nil ?_
        refine then_n ?_
        refine c_cond_f hF rfl ?_
        refine wp_skip ?_
        refine then_n ?_
        refine wp_exit ?_
        refine then_x ?_
        refine inb_x ?_
        refine then_n ?_
        refine c_region ?_
        refine mvN hF rfl rfl rfl rfl rfl ?_; clear hF; intro a hF
        refine seq_yl hF (wn_none rfl) rfl rfl (yl_bin hF rfl rfl rfl rfl (fun _ => run_inc (by omega))) ?_; clear hF; intro a hF
        refine asN hF rfl rfl rfl rfl rfl ?_; clear hF; intro a hF
        refine wpList_nil ?_
        refine then_n ?_
        exact ⟨_, (by omega), i + 1, rfl, (by omega), hF.to [5, 6, 7, 10] rfl, (hS.sub [0, 1, 2, 3, 4] (by decide) (by first | rfl | simp) (by simp))⟩
       ·first | (replace hc1117 := of_decide_eq_false hc1117) | (replace hc1117 := of_decide_eq_true (bnot_f hc1117)) | (replace hc1117 := bnot_f hc1117) | skip
        try (have hc1117x := hc1117; simp only [okS, okI, okW, okP] at hc1117x)
        refine wp_skip ?_
        refine then_n ?_
        refine c_seq ?_
        refine c_region ?_
        refine mvN hF rfl rfl rfl rfl rfl ?_; clear hF; intro a hF
        refine seq_yl hF (wn_none rfl) rfl rfl (yl_fieldAddr hF rfl rfl (fun w => by kernel_rfl : ∀ w, (Instr.fieldAt 45 (.pointer (some ⟨g1101, 0, none⟩)) 2).run Try.prog w = .ok (.pointer (some ⟨g1101, 2, none⟩)) w)) ?_; clear hF; intro a hF
        refine seq_yl hF (wn_none rfl) rfl rfl (yl_load (fun _ h => h ▸ hS) hF rfl rfl 1 rfl ag3 rfl) ?_; clear hF; intro a hF
        refine seq_yl hF (wn_none rfl) rfl rfl (yl_bin hF rfl rfl rfl rfl (fun _ => run_sub (by refine ⟨?_, ?_⟩ <;> omega))) ?_; clear hF; intro a hF
        refine seq_yl hF (wn_none rfl) rfl rfl (yl_bin hF rfl rfl rfl rfl (fun _ => run_mul (by refine ⟨?_, ?_⟩ <;> omega))) ?_; clear hF; intro a hF
        refine asN hF rfl rfl rfl rfl rfl ?_; clear hF; intro a hF
        refine wpList_nil ?_
        refine then_n ?_
        refine c_seq ?_
        refine c_region ?_
        refine seq_yl hF (wn_none rfl) rfl rfl (yl_fieldAddr hF rfl rfl (fun w => by kernel_rfl : ∀ w, (Instr.fieldAt 45 (.pointer (some ⟨g1101, 0, none⟩)) 4).run Try.prog w = .ok (.pointer (some ⟨g1101, 4, none⟩)) w)) ?_; clear hF; intro a hF
        refine seq_yl hF (wn_none rfl) rfl rfl (yl_load (fun _ h => h ▸ hS) hF rfl rfl 1 rfl ag9 rfl) ?_; clear hF; intro a hF
        refine mvN hF rfl rfl rfl rfl rfl ?_; clear hF; intro a hF
        refine mvN hF rfl rfl rfl rfl rfl ?_; clear hF; intro a hF
        refine seq_yl hF (wn_none rfl) rfl rfl (yl_bin hF rfl rfl rfl rfl (fun _ => run_add (by refine ⟨?_, ?_⟩ <;> omega))) ?_; clear hF; intro a hF
        have hz1118 := subs_size (s := x1094) (i := ((((((i : Nat) : Int) - (sx1092))) * (8 : Int)))) (j := ((((((((i : Nat) : Int) - (sx1092))) * (8 : Int))) + (8 : Int)))) (by omega) (by omega) (by omega)
        refine seq_yl hF (wn_none rfl) rfl rfl (yl_subsLH (s := x1094) (i := ((((((i : Nat) : Int) - (sx1092))) * (8 : Int)))) (j := ((((((((i : Nat) : Int) - (sx1092))) * (8 : Int))) + (8 : Int)))) hF rfl rfl rfl rfl Try.underlying9 (by omega) (by omega) (by omega)) ?_; clear hF; intro a hF
        refine asN hF rfl rfl rfl rfl rfl ?_; clear hF; intro a hF
        refine wpList_nil ?_
        refine then_n ?_
        refine c_seq ?_
        refine c_region ?_
        refine mvN hF rfl rfl rfl rfl rfl ?_; clear hF; intro a hF
        refine mvN hF rfl rfl rfl rfl rfl ?_; clear hF; intro a hF
        refine seq_yl hF (wn_none rfl) rfl rfl (yl_bin hF rfl rfl rfl rfl (fun _ => run_str_neq)) ?_; clear hF; intro a hF
        refine mvN hF rfl rfl rfl rfl rfl ?_; clear hF; intro a hF
        refine fr_split hF (fun hc1119 hF => ?_) (fun hc1119 hF => ?_)
        ·first | (replace hc1119 := of_decide_eq_true hc1119) | (replace hc1119 := of_decide_eq_false (bnot_t hc1119)) | (replace hc1119 := bnot_t hc1119) | skip
         try (have hc1119x := hc1119; simp only [okS, okI, okW, okP] at hc1119x)
         refine seq_yl hF (wn_t hF rfl rfl rfl rfl) rfl rfl (yl_move hF rfl rfl) ?_; clear hF; intro a hF
         refine seq_yl hF (wn_t hF rfl rfl rfl rfl) rfl rfl (yl_move hF rfl rfl) ?_; clear hF; intro a hF
         refine seq_yl hF (wn_t hF rfl rfl rfl rfl) rfl rfl (yl_bin hF rfl rfl rfl rfl (fun _ => run_str_neq)) ?_; clear hF; intro a hF
         refine seq_yl hF (wn_none rfl) rfl rfl (pkT hF rfl rfl rfl) ?_; clear hF; intro a hF
         refine mvN hF rfl rfl rfl rfl rfl ?_; clear hF; intro a hF
         refine fr_split hF (fun hc1120 hF => ?_) (fun hc1120 hF => ?_)
         ·first | (replace hc1120 := of_decide_eq_true hc1120) | (replace hc1120 := of_decide_eq_false (bnot_t hc1120)) | (replace hc1120 := bnot_t hc1120) | skip
          try (have hc1120x := hc1120; simp only [okS, okI, okW, okP] at hc1120x)
          refine seq_yl hF (wn_t hF rfl rfl rfl rfl) rfl rfl (yl_move hF rfl rfl) ?_; clear hF; intro a hF
          refine seq_yl hF (wn_t hF rfl rfl rfl rfl) rfl rfl (yl_move hF rfl rfl) ?_; clear hF; intro a hF
          refine seq_yl hF (wn_t hF rfl rfl rfl rfl) rfl rfl (yl_move hF rfl rfl) ?_; clear hF; intro a hF
          refine seq_wp (wn_t hF rfl rfl rfl rfl) (wp_call (vs := [_, _]) hF rfl rfl rfl rfl cf32 (torn2_any (subs x1094 ((((((i : Nat) : Int) - (sx1092))) * (8 : Int))) ((((((((i : Nat) : Int) - (sx1092))) * (8 : Int))) + (8 : Int)))) (newest st1085 Lq1087 (i : Int)) _ (by omega) (by omega) (by omega) (by omega)) ?_)
          clear hF; rintro _ w ⟨rfl, hS1⟩ a hF
          replace hS := hS.callB hS1 rfl; clear hS1
          have hz1121 := cat_size (subs (subs x1094 ((((((i : Nat) : Int) - (sx1092))) * (8 : Int))) ((((((((i : Nat) : Int) - (sx1092))) * (8 : Int))) + (8 : Int)))) 0 4) (subs (newest st1085 Lq1087 (i : Int)) 4 (((newest st1085 Lq1087 (i : Int))).size : Int)); rw [subs_size (s := (subs x1094 ((((((i : Nat) : Int) - (sx1092))) * (8 : Int))) ((((((((i : Nat) : Int) - (sx1092))) * (8 : Int))) + (8 : Int))))) (i := 0) (j := 4) (by omega) (by omega) (by omega), subs_size (s := (newest st1085 Lq1087 (i : Int))) (i := 4) (j := (((newest st1085 Lq1087 (i : Int))).size : Int)) (by omega) (by omega) (by omega)] at hz1121
          refine seq_yl hF (wn_t hF rfl rfl rfl rfl) rfl rfl (yl_bin hF rfl rfl rfl rfl (fun _ => run_str_neq)) ?_; clear hF; intro a hF
          replace hF := fr_set (b' := false) hF (by rw [decide_eq_false_iff_not]; refine not_not_intro ?_; rcases ho with h9 | ⟨_, _, h9 | h9⟩; exact absurd h9 (by assumption); exact absurd h9 (by assumption); exact h9)
          refine seq_yl hF (wn_none rfl) rfl rfl (pkT hF rfl rfl rfl) ?_; clear hF; intro a hF
          refine wpList_nil ?_
          refine then_n ?_
          refine c_cond_f hF rfl ?_
          refine wp_skip ?_
          refine inb_n ?_
          refine then_n ?_
          refine c_region ?_
          refine mvN hF rfl rfl rfl rfl rfl ?_; clear hF; intro a hF
          refine seq_yl hF (wn_none rfl) rfl rfl (yl_bin hF rfl rfl rfl rfl (fun _ => run_inc (by omega))) ?_; clear hF; intro a hF
          refine asN hF rfl rfl rfl rfl rfl ?_; clear hF; intro a hF
          refine wpList_nil ?_
          refine then_n ?_
          exact ⟨_, (by omega), i + 1, rfl, (by omega), hF.to [5, 6, 7, 10] rfl, (hS.sub [0, 1, 2, 3, 4] (by decide) (by first | rfl | simp) (by simp))⟩
         ·first | (replace hc1120 := of_decide_eq_false hc1120) | (replace hc1120 := of_decide_eq_true (bnot_f hc1120)) | (replace hc1120 := bnot_f hc1120) | skip
          try (have hc1120x := hc1120; simp only [okS, okI, okW, okP] at hc1120x)
          refine skF hF rfl rfl rfl rfl rfl rfl ?_; clear hF; intro a hF
          refine skF hF rfl rfl rfl rfl rfl rfl ?_; clear hF; intro a hF
          refine skF hF rfl rfl rfl rfl rfl rfl ?_; clear hF; intro a hF
          refine skF hF rfl rfl rfl rfl rfl rfl ?_; clear hF; intro a hF
          refine skF hF rfl rfl rfl rfl rfl rfl ?_; clear hF; intro a hF
          refine seq_yl hF (wn_none rfl) rfl rfl (pkF hF rfl rfl rfl) ?_; clear hF; intro a hF
          refine wpList_nil ?_
          refine then_n ?_
          refine c_cond_f hF rfl ?_
          refine wp_skip ?_
          refine inb_n ?_
          refine then_n ?_
          refine c_region ?_
          refine mvN hF rfl rfl rfl rfl rfl ?_; clear hF; intro a hF
          refine seq_yl hF (wn_none rfl) rfl rfl (yl_bin hF rfl rfl rfl rfl (fun _ => run_inc (by omega))) ?_; clear hF; intro a hF
          refine asN hF rfl rfl rfl rfl rfl ?_; clear hF; intro a hF
          refine wpList_nil ?_
          refine then_n ?_
          exact ⟨_, (by omega), i + 1, rfl, (by omega), hF.to [5, 6, 7, 10] rfl, (hS.sub [0, 1, 2, 3, 4] (by decide) (by first | rfl | simp) (by simp))⟩
        ·first | (replace hc1119 := of_decide_eq_false hc1119) | (replace hc1119 := of_decide_eq_true (bnot_f hc1119)) | (replace hc1119 := bnot_f hc1119) | skip
         try (have hc1119x := hc1119; simp only [okS, okI, okW, okP] at hc1119x)
         refine skF hF rfl rfl rfl rfl rfl rfl ?_; clear hF; intro a hF
         refine skF hF rfl rfl rfl rfl rfl rfl ?_; clear hF; intro a hF
         refine skF hF rfl rfl rfl rfl rfl rfl ?_; clear hF; intro a hF
         refine seq_yl hF (wn_none rfl) rfl rfl (pkF hF rfl rfl rfl) ?_; clear hF; intro a hF
         refine mvN hF rfl rfl rfl rfl rfl ?_; clear hF; intro a hF
         refine skF hF rfl rfl rfl rfl rfl rfl ?_; clear hF; intro a hF
         refine skF hF rfl rfl rfl rfl rfl rfl ?_; clear hF; intro a hF
         refine skF hF rfl rfl rfl rfl rfl rfl ?_; clear hF; intro a hF
         refine skF hF rfl rfl rfl rfl rfl rfl ?_; clear hF; intro a hF
         refine skF hF rfl rfl rfl rfl rfl rfl ?_; clear hF; intro a hF
         refine seq_yl hF (wn_none rfl) rfl rfl (pkF hF rfl rfl rfl) ?_; clear hF; intro a hF
         refine wpList_nil ?_
         refine then_n ?_
         refine c_cond_f hF rfl ?_
         refine wp_skip ?_
         refine inb_n ?_
         refine then_n ?_
         refine c_region ?_
         refine mvN hF rfl rfl rfl rfl rfl ?_; clear hF; intro a hF
         refine seq_yl hF (wn_none rfl) rfl rfl (yl_bin hF rfl rfl rfl rfl (fun _ => run_inc (by omega))) ?_; clear hF; intro a hF
         refine asN hF rfl rfl rfl rfl rfl ?_; clear hF; intro a hF
         refine wpList_nil ?_
         refine then_n ?_
         exact ⟨_, (by omega), i + 1, rfl, (by omega), hF.to [5, 6, 7, 10] rfl, (hS.sub [0, 1, 2, 3, 4] (by decide) (by first | rfl | simp) (by simp))⟩
     ·first | (replace hc1113 := of_decide_eq_false hc1113) | (replace hc1113 := of_decide_eq_true (bnot_f hc1113)) | (replace hc1113 := bnot_f hc1113) | skip
      try (have hc1113x := hc1113; simp only [okS, okI, okW, okP] at hc1113x)
      refine wp_exit ?_
      refine then_x ?_
      refine then_x ?_
      refine inb_x ?_
      refine then_n ?_
      refine c_seq ?_
      refine c_region ?_
      refine seq_wp (wn_none rfl) (wp_call (vs := []) hF rfl rfl rfl rfl cf18 (awake_any _) ?_)
      clear hF; rintro _ w ⟨rfl, hS1⟩ a hF
      replace hS := hS.callB hS1 rfl; clear hS1
      refine asN hF rfl rfl rfl rfl rfl ?_; clear hF; intro a hF
      refine wpList_nil ?_
      refine then_n ?_
      refine wp_ret ?_
      refine ret_t hF rfl rfl ?_
      exact ⟨_, rfl, rfl, (hS.sub [] (by decide) (by first | rfl | simp) (by simp))⟩

end Go.Proofs.Ytkejcnhfbfgphaa

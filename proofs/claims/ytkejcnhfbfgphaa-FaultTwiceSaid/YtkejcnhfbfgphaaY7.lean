/- walks, printed by wip/gen -/
import Derived.Test.YtkejcnhfbfgphaaY4
import Derived.Test.YtkejcnhfbfgphaaPH
namespace Go.Proofs.Ytkejcnhfbfgphaa
open Go.RowKit
set_option linter.unusedVariables false
set_option linter.unusedSimpArgs false

set_option maxHeartbeats 1000000 in
set_option maxRecDepth 100000 in
theorem twice_any (v : Value) (L : List Int) (n1 : Int) (w0 : World) (hv : Rd w0 1 v (L).length (cells encI (L))) (hL : L.length ≤ 9223372036854775807) :
  Fn Try.prog 10 #[v, .int .i64 n1] w0 (fun v w' => v = .bool true ∧ Sat w0 w' []) := by
 obtain ⟨Av, cv, rfl⟩ := Rd.form hv
 refine c_enter (N := 72) (l := [_, _]) Try.func10 rfl rfl (fun a w hF hS => ?_)
 replace hS := hS.addRo hv
 refine c_seq ?_
 refine c_region ?_
 refine asN hF rfl rfl rfl rfl rfl ?_; clear hF; intro a hF
 refine wpList_nil ?_
 refine then_n ?_
 refine c_seq ?_
 refine c_region ?_
 refine mvN hF rfl rfl rfl rfl rfl ?_; clear hF; intro a hF
 refine seq_wp (wn_none rfl) (wp_call (vs := [_]) hF rfl rfl rfl rfl cf28 (drive_any _ L _ (hS.rdRo 0 rfl) (by first | omega | (simp; done) | (simp; omega))) ?_)
 clear hF; rintro _ w ⟨st1005, v1006, Lq1007, rm1008, rfl, hd1009, hS1⟩ a hF
 replace hS := hS.callB hS1 rfl; clear hS1
 obtain ⟨Av1006, cv1006, rfl⟩ := hS.form 0 rfl
 obtain ⟨hd1009d, hd1009s⟩ := hd1009; have hd1009i := okD_I hd1009d
 refine seq_wp (wn_none rfl) (wp_alloc (cs := #[_, _, _]) hF hS rfl rfl rfl zr43 rfl ?_)
 clear hF hS; intro a w g1010 hF hS
 refine seq_wp (wn_none rfl) (wp_store (cs' := #[_, _, _]) hF hS rfl rfl rfl rfl 0 rfl sz43 (by simp [Value.cells, Value.oneCell']) (by simp [Value.cells]) rfl ?_)
 clear hF hS; intro a w hF hS
 refine wpList_nil ?_
 refine then_n ?_
 refine c_seq ?_
 refine c_region ?_
 refine seq_yl hF (wn_none rfl) rfl rfl (yl_loadK (rs := [_, _, _]) (fun _ h => h ▸ hS) hF rfl rfl 0 rfl ag43 sz43 rfl rfl) ?_; clear hF; intro a hF
 refine mvN hF rfl rfl rfl rfl rfl ?_; clear hF; intro a hF
 refine seq_wp (wn_none rfl) (wp_call (vs := [_, _]) hF rfl rfl rfl rfl cf29 (command_any st1005 _ _ (n1) _ (by omega) (by omega)) ?_)
 clear hF; rintro _ w ⟨k1011, sx1012, cx1013, x1014, fu1015, er1016, dn1017, hfx1018, dl1019, rfl, hcm1020, hS1⟩ a hF
 replace hS := hS.callB hS1 rfl; clear hS1
 refine seq_wp (wn_none rfl) (wp_alloc (cs := #[_, _, _, _, _, _, _, _, _, _, _, _]) hF hS rfl rfl rfl zr45 rfl ?_)
 clear hF hS; intro a w g1021 hF hS
 refine seq_wp (wn_none rfl) (wp_store (cs' := #[_, _, _, _, _, _, _, _, _, _, _, _]) hF hS rfl rfl rfl rfl 0 rfl sz45 (by simp [Value.cells, Value.oneCell']) (by simp [Value.cells]) rfl ?_)
 clear hF hS; intro a w hF hS
 refine wpList_nil ?_
 refine then_n ?_
 refine c_seq ?_
 refine c_region ?_
 refine seq_yl hF (wn_none rfl) rfl rfl (yl_build (parts := []) (vs := []) (cs := [_, _, _, _]) hF bd27 rfl rfl rfl rfl) ?_; clear hF; intro a hF
 refine seq_yl hF (wn_none rfl) rfl rfl (yl_fieldAddr hF rfl rfl (fun w => by kernel_rfl : ∀ w, (Instr.fieldAt 45 (.pointer (some ⟨g1021, 0, none⟩)) 8).run Try.prog w = .ok (.pointer (some ⟨g1021, 8, none⟩)) w)) ?_; clear hF; intro a hF
 refine seq_wp (wn_none rfl) (wp_store (cs' := #[_, _, _, _, _, _, _, _, _, _, _, _]) hF hS rfl rfl rfl rfl 0 rfl sz27 (by simp [Value.cells, Value.oneCell']) (by simp [Value.cells]) rfl ?_)
 clear hF hS; intro a w hF hS
 refine wpList_nil ?_
 refine then_n ?_
 refine c_seq ?_
 refine c_region ?_
 refine seq_yl hF (wn_none rfl) rfl rfl (yl_loadK (rs := [_, _, _]) (fun _ h => h ▸ hS) hF rfl rfl 1 rfl ag43 sz43 rfl rfl) ?_; clear hF; intro a hF
 refine seq_yl hF (wn_none rfl) rfl rfl (yl_loadK (rs := [_, _, _, _, _, _, _, _, _, _, _, _]) (fun _ h => h ▸ hS) hF rfl rfl 0 rfl ag45 sz45 rfl rfl) ?_; clear hF; intro a hF
 refine seq_wp (wn_none rfl) (wp_call (vs := [_, _]) hF rfl rfl rfl rfl cf21 (run_any st1005 _ Lq1007 (rm1008) (0 : Int) (k1011) (sx1012) (cx1013) x1014 fu1015 (0 : Int) (0 : Int) (0 : Int) (0 : Int) false (0 : Int) _ (hS.rdRow 2 rfl) (by first | omega | (simp; done)) (by first | omega | (simp; done)) (by first | omega | (simp; done))) ?_)
 clear hF; rintro _ w ⟨st1022, v1023, Lq1024, rm1025, dt1026, e1027, rfl, hq1028, hS1⟩ a hF
 replace hS := hS.callB hS1 rfl; clear hS1
 obtain ⟨Av1023, cv1023, rfl⟩ := hS.form 0 rfl
 have hq1028b := runF_bd (by omega) (by omega) hq1028
 refine mvN hF rfl rfl rfl rfl rfl ?_; clear hF; intro a hF
 refine seq_yl hF (wn_none rfl) rfl rfl (yl_extract hF rfl rfl rfl) ?_; clear hF; intro a hF
 refine seq_yl hF (wn_none rfl) rfl rfl (yl_extract hF rfl rfl rfl) ?_; clear hF; intro a hF
 refine seq_yl hF (wn_none rfl) rfl rfl (yl_extract hF rfl rfl rfl) ?_; clear hF; intro a hF
 refine seq_wp (wn_none rfl) (wp_alloc (cs := #[_, _, _]) hF hS rfl rfl rfl zr43 rfl ?_)
 clear hF hS; intro a w g1029 hF hS
 refine seq_wp (wn_none rfl) (wp_store (cs' := #[_, _, _]) hF hS rfl rfl rfl rfl 0 rfl sz43 (by simp [Value.cells, Value.oneCell']) (by simp [Value.cells]) rfl ?_)
 clear hF hS; intro a w hF hS
 refine asN hF rfl rfl rfl rfl rfl ?_; clear hF; intro a hF
 refine asN hF rfl rfl rfl rfl rfl ?_; clear hF; intro a hF
 refine wpList_nil ?_
 refine then_n ?_
 refine c_seq ?_
 refine c_region ?_
 refine seq_yl hF (wn_none rfl) rfl rfl (yl_loadK (rs := [_, _, _]) (fun _ h => h ▸ hS) hF rfl rfl 0 rfl ag43 sz43 rfl rfl) ?_; clear hF; intro a hF
 refine seq_yl hF (wn_none rfl) rfl rfl (yl_loadK (rs := [_, _, _, _, _, _, _, _, _, _, _, _]) (fun _ h => h ▸ hS) hF rfl rfl 2 rfl ag45 sz45 rfl rfl) ?_; clear hF; intro a hF
 refine seq_wp (wn_none rfl) (wp_call (vs := [_, _]) hF rfl rfl rfl rfl cf21 (run_any st1022 _ Lq1024 (rm1025) (0 : Int) (k1011) (sx1012) (cx1013) x1014 fu1015 (0 : Int) (0 : Int) (0 : Int) (0 : Int) false (0 : Int) _ (hS.rdRow 1 rfl) (by first | omega | (simp; done)) (by first | omega | (simp; done)) (by first | omega | (simp; done))) ?_)
 clear hF; rintro _ w ⟨st1030, v1031, Lq1032, rm1033, dt1034, e1035, rfl, hq1036, hS1⟩ a hF
 replace hS := hS.callB hS1 rfl; clear hS1
 obtain ⟨Av1031, cv1031, rfl⟩ := hS.form 0 rfl
 have hq1036b := runF_bd (by omega) (by omega) hq1036
 refine mvN hF rfl rfl rfl rfl rfl ?_; clear hF; intro a hF
 refine seq_yl hF (wn_none rfl) rfl rfl (yl_extract hF rfl rfl rfl) ?_; clear hF; intro a hF
 refine seq_yl hF (wn_none rfl) rfl rfl (yl_extract hF rfl rfl rfl) ?_; clear hF; intro a hF
 refine seq_yl hF (wn_none rfl) rfl rfl (yl_extract hF rfl rfl rfl) ?_; clear hF; intro a hF
 refine seq_wp (wn_none rfl) (wp_alloc (cs := #[_, _, _]) hF hS rfl rfl rfl zr43 rfl ?_)
 clear hF hS; intro a w g1037 hF hS
 refine seq_wp (wn_none rfl) (wp_store (cs' := #[_, _, _]) hF hS rfl rfl rfl rfl 0 rfl sz43 (by simp [Value.cells, Value.oneCell']) (by simp [Value.cells]) rfl ?_)
 clear hF hS; intro a w hF hS
 refine asN hF rfl rfl rfl rfl rfl ?_; clear hF; intro a hF
 refine asN hF rfl rfl rfl rfl rfl ?_; clear hF; intro a hF
 refine wpList_nil ?_
 refine then_n ?_
 refine c_seq ?_
 refine c_region ?_
 refine seq_yl hF (wn_none rfl) rfl rfl (yl_loadK (rs := [_, _, _]) (fun _ h => h ▸ hS) hF rfl rfl 5 rfl ag43 sz43 rfl rfl) ?_; clear hF; intro a hF
 refine seq_wp (wn_none rfl) (wp_call (vs := [_]) hF rfl rfl rfl rfl cf30 (secs_any st1005 _ _ _ (by omega)) ?_)
 clear hF; rintro _ w ⟨rfl, hS1⟩ a hF
 replace hS := hS.callB hS1 rfl; clear hS1
 refine asN hF rfl rfl rfl rfl rfl ?_; clear hF; intro a hF
 refine wpList_nil ?_
 refine then_n ?_
 refine c_seq ?_
 refine c_region ?_
 obtain ⟨t1, t2, t3, t4, t5, t6, t7⟩ := twice hd1009d hq1028 hq1036
 have hr1 := read_all (c := ((((st1005).size : Int) / 8))) t3 (by omega) (by omega); have hr2 := read_all (c := ((((st1005).size : Int) / 8))) t4 (by omega) (by omega)
 refine seq_yl hF (wn_none rfl) rfl rfl (yl_loadK (rs := [_, _, _]) (fun _ h => h ▸ hS) hF rfl rfl 2 rfl ag43 sz43 rfl rfl) ?_; clear hF; intro a hF
 refine mvN hF rfl rfl rfl rfl rfl ?_; clear hF; intro a hF
 refine seq_wp (wn_none rfl) (wp_call (vs := [_, _, _]) hF rfl rfl rfl rfl cf31 (read2_any st1022 _ Lq1024 (rm1025) (0 : Int) ((((st1005).size : Int) / 8)) _ (hS.rdRow 3 rfl) (by first | omega | (simp; done)) (by first | omega | (simp; done))) ?_)
 clear hF; rintro _ w ⟨rfl, hS1⟩ a hF
 replace hS := hS.callB hS1 rfl; clear hS1
 have hz1038 := readF_bd st1022 Lq1024 (rm1025) (0 : Int) ((((st1005).size : Int) / 8))
 refine mvN hF rfl rfl rfl rfl rfl ?_; clear hF; intro a hF
 refine seq_yl hF (wn_none rfl) rfl rfl (yl_extract hF rfl rfl rfl) ?_; clear hF; intro a hF
 refine seq_yl hF (wn_none rfl) rfl rfl (yl_extract hF rfl rfl rfl) ?_; clear hF; intro a hF
 refine asN hF rfl rfl rfl rfl rfl ?_; clear hF; intro a hF
 refine asN hF rfl rfl rfl rfl rfl ?_; clear hF; intro a hF
 refine wpList_nil ?_
 refine then_n ?_
 refine c_seq ?_
 refine c_region ?_
 refine seq_yl hF (wn_none rfl) rfl rfl (yl_loadK (rs := [_, _, _]) (fun _ h => h ▸ hS) hF rfl rfl 0 rfl ag43 sz43 rfl rfl) ?_; clear hF; intro a hF
 refine mvN hF rfl rfl rfl rfl rfl ?_; clear hF; intro a hF
 refine seq_wp (wn_none rfl) (wp_call (vs := [_, _, _]) hF rfl rfl rfl rfl cf31 (read2_any st1030 _ Lq1032 (rm1033) (0 : Int) ((((st1005).size : Int) / 8)) _ (hS.rdRow 1 rfl) (by first | omega | (simp; done)) (by first | omega | (simp; done))) ?_)
 clear hF; rintro _ w ⟨rfl, hS1⟩ a hF
 replace hS := hS.callB hS1 rfl; clear hS1
 have hz1039 := readF_bd st1030 Lq1032 (rm1033) (0 : Int) ((((st1005).size : Int) / 8))
 refine mvN hF rfl rfl rfl rfl rfl ?_; clear hF; intro a hF
 refine seq_yl hF (wn_none rfl) rfl rfl (yl_extract hF rfl rfl rfl) ?_; clear hF; intro a hF
 refine seq_yl hF (wn_none rfl) rfl rfl (yl_extract hF rfl rfl rfl) ?_; clear hF; intro a hF
 replace hF := fr_set (b' := true) hF (by rw [hr2])
 refine asN hF rfl rfl rfl rfl rfl ?_; clear hF; intro a hF
 refine asN hF rfl rfl rfl rfl rfl ?_; clear hF; intro a hF
 refine wpList_nil ?_
 refine then_n ?_
 refine c_seq ?_
 refine c_region ?_
 refine mvN hF rfl rfl rfl rfl rfl ?_; clear hF; intro a hF
 refine mvN hF rfl rfl rfl rfl rfl ?_; clear hF; intro a hF
 refine seq_yl hF (wn_none rfl) rfl rfl (yl_bin hF rfl rfl rfl rfl (fun _ => run_eql)) ?_; clear hF; intro a hF
 replace hF := fr_set (b' := true) hF (by rw [decide_eq_true_eq]; exact t1)
 refine mvN hF rfl rfl rfl rfl rfl ?_; clear hF; intro a hF
 refine seq_yl hF (wn_t hF rfl rfl rfl rfl) rfl rfl (yl_move hF rfl rfl) ?_; clear hF; intro a hF
 refine seq_yl hF (wn_t hF rfl rfl rfl rfl) rfl rfl (yl_move hF rfl rfl) ?_; clear hF; intro a hF
 refine seq_yl hF (wn_t hF rfl rfl rfl rfl) rfl rfl (yl_bin hF rfl rfl rfl rfl (fun _ => run_str_eql)) ?_; clear hF; intro a hF
 replace hF := fr_set (b' := true) hF (by rw [decide_eq_true_eq]; exact t2)
 refine seq_yl hF (wn_none rfl) rfl rfl (pkT hF rfl rfl rfl) ?_; clear hF; intro a hF
 refine mvN hF rfl rfl rfl rfl rfl ?_; clear hF; intro a hF
 refine seq_yl hF (wn_t hF rfl rfl rfl rfl) rfl rfl (yl_move hF rfl rfl) ?_; clear hF; intro a hF
 refine seq_yl hF (wn_none rfl) rfl rfl (pkT hF rfl rfl rfl) ?_; clear hF; intro a hF
 refine mvN hF rfl rfl rfl rfl rfl ?_; clear hF; intro a hF
 refine seq_yl hF (wn_t hF rfl rfl rfl rfl) rfl rfl (yl_move hF rfl rfl) ?_; clear hF; intro a hF
 refine seq_yl hF (wn_t hF rfl rfl rfl rfl) rfl rfl (yl_move hF rfl rfl) ?_; clear hF; intro a hF
 refine seq_yl hF (wn_t hF rfl rfl rfl rfl) rfl rfl (yl_bin hF rfl rfl rfl rfl (fun _ => run_str_eql)) ?_; clear hF; intro a hF
 replace hF := fr_set (b' := true) hF (by rw [decide_eq_true_eq, hr1, hr2]; exact t7)
 refine seq_yl hF (wn_none rfl) rfl rfl (pkT hF rfl rfl rfl) ?_; clear hF; intro a hF
 refine mvN hF rfl rfl rfl rfl rfl ?_; clear hF; intro a hF
 refine seq_wp (wn_t hF rfl rfl rfl rfl) (wp_call (vs := []) hF rfl rfl rfl rfl cf18 (awake_any _) ?_)
 clear hF; rintro _ w ⟨rfl, hS1⟩ a hF
 replace hS := hS.callB hS1 rfl; clear hS1
 refine seq_yl hF (wn_none rfl) rfl rfl (pkT hF rfl rfl rfl) ?_; clear hF; intro a hF
 refine asN hF rfl rfl rfl rfl rfl ?_; clear hF; intro a hF
 refine wpList_nil ?_
 refine then_n ?_
 refine wp_ret ?_
 refine ret_t hF rfl rfl ?_
 exact ⟨_, rfl, rfl, (hS.sub [] (by decide) (by first | rfl | simp) (by simp))⟩

end Go.Proofs.Ytkejcnhfbfgphaa

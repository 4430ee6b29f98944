/- walks, printed by wip/gen -/
import Derived.Test.YteidhjdkaaddgaaWa
import Derived.Test.YteidhjdkaaddgaaW6
import Derived.Test.YteidhjdkaaddgaaW7
import Derived.Test.YteidhjdkaaddgaaWB
namespace Go.Proofs.Yteidhjdkaaddgaa
open Go.RowKit
set_option linter.unusedVariables false
set_option linter.unusedSimpArgs false

set_option maxHeartbeats 2000000 in
set_option maxRecDepth 100000 in
theorem room_any (v u : Value) (L M : List Int) (n1 : Int) (w0 : World) (hv : Rd w0 1 v (L).length (cells encI (L))) (hu : Rd w0 1 u (M).length (cells encI (M))) (hL : L.length ≤ 9223372036854775807) (hM : M.length ≤ 9223372036854775807) :
    Fn Try.prog 5 #[v, u, .int .i64 n1] w0 (fun v w' => v = .bool true ∧ Sat w0 w' []) := by
  obtain ⟨Av, cv, rfl⟩ := Rd.form hv
  obtain ⟨Au, cu, rfl⟩ := Rd.form hu
  refine c_enter (N := 119) (l := [_, _, _]) Try.func5 rfl rfl (fun a w hF hS => ?_)
  replace hS := hS.addRo hu
  replace hS := hS.addRo hv
  refine c_seq ?_
  refine c_region ?_
  refine seq_yl hF (wn_none rfl) rfl rfl (yl_assign hF rfl rfl) ?_
  clear hF; intro a hF
  refine wpList_nil ?_
  refine then_n ?_
  refine c_seq ?_
  refine c_region ?_
  refine seq_yl hF (wn_none rfl) rfl rfl (yl_move hF rfl rfl) ?_
  clear hF; intro a hF
  refine seq_wp (wn_none rfl) (wp_call (vs := [_]) hF rfl rfl rfl rfl cf11 (drive_any _ L _ (hS.rdRo 0 rfl) (by first | omega | (simp; done) | (simp; omega))) ?_)
  clear hF; rintro _ w ⟨st813, v814, Lq815, rm816, rfl, hd817, hS1⟩ a hF
  replace hS := hS.callB hS1 rfl; clear hS1
  obtain ⟨Av814, cv814, rfl⟩ := hS.form 0 rfl
  obtain ⟨hd817d, hd817s⟩ := hd817; have hd817i := okD_I hd817d
  refine seq_wp (wn_none rfl) (wp_alloc (cs := #[_, _, _]) hF hS rfl rfl rfl zr25 rfl ?_)
  clear hF hS; intro a w g818 hF hS
  refine seq_wp (wn_none rfl) (wp_store (cs' := #[_, _, _]) hF hS rfl rfl rfl rfl 0 rfl sz25 (by simp [Value.cells, Value.oneCell']) (by simp [Value.cells]) rfl ?_)
  clear hF hS; intro a w hF hS
  refine wpList_nil ?_
  refine then_n ?_
  refine c_seq ?_
  refine c_region ?_
  refine seq_yl hF (wn_none rfl) rfl rfl (yl_loadK (rs := [_, _, _]) (fun _ h => h ▸ hS) hF rfl rfl 0 rfl ag25 sz25 rfl rfl) ?_
  clear hF; intro a hF
  refine seq_wp (wn_none rfl) (wp_alloc (cs := #[_, _, _]) hF hS rfl rfl rfl zr25 rfl ?_)
  clear hF hS; intro a w g819 hF hS
  refine seq_wp (wn_none rfl) (wp_store (cs' := #[_, _, _]) hF hS rfl rfl rfl rfl 0 rfl sz25 (by simp [Value.cells, Value.oneCell']) (by simp [Value.cells]) rfl ?_)
  clear hF hS; intro a w hF hS
  refine wpList_nil ?_
  refine then_n ?_
  refine c_seq ?_
  refine ha_startS hS [1] 7 (by kernel_rfl) ?_; clear hS; intro w hS
  have hSS := hS.sub [1] (by decide) rfl (by simp)
  refine ha_y 0 hF rfl rfl rfl (wn_none rfl) (.inr hSS) (yl_fieldAddr hF rfl rfl (fun w => by kernel_rfl : ∀ w, (Instr.fieldAt 25 (.pointer (some ⟨g818, 0, none⟩)) 2).run Try.prog w = .ok (.pointer (some ⟨g818, 2, none⟩)) w)) ?_
  clear hF; intro a hF
  refine ha_y 2 hF rfl rfl rfl (wn_none rfl) (.inr hSS) (yl_move hF rfl rfl) ?_
  clear hF; intro a hF
  refine ha_l 1 hF rfl rfl rfl (wn_none rfl) hSS (yl_load (fun _ h => h) hF rfl rfl 0 rfl ag3 rfl) ?_
  clear hF; intro a hF
  have hr820 := rnd_any (n1) (6 : Int)
  refine ha_one 3 (by kernel_rfl) rfl (wn_none rfl) (wp_call (vs := [_, _]) hF rfl rfl rfl rfl cf12 (round_any (n1) (6 : Int) _ (by omega)) ?_)
  clear hF; rintro _ w ⟨rfl, hS1⟩ a hF
  replace hS := hS.callB hS1 rfl; clear hS1
  replace hSS := hS.sub [1] (by decide) rfl (by simp)
  refine ⟨.inr hSS, ?_⟩
  refine ha_y 4 hF rfl rfl rfl (wn_none rfl) (.inr hSS) (yl_bin hF rfl rfl rfl rfl (fun _ => run_add (by refine ⟨?_, ?_⟩ <;> omega))) ?_
  clear hF; intro a hF
  refine ha_y 5 hF rfl rfl rfl (wn_none rfl) (.inr hSS) (yl_fieldAddr hF rfl rfl (fun w => by kernel_rfl : ∀ w, (Instr.fieldAt 25 (.pointer (some ⟨g819, 0, none⟩)) 2).run Try.prog w = .ok (.pointer (some ⟨g819, 2, none⟩)) w)) ?_
  clear hF; intro a hF
  refine ha_one 6 (by kernel_rfl) rfl (wn_none rfl) (wp_store (cs' := #[_, _, _]) hF hS rfl rfl rfl rfl 0 rfl sz3 (by simp [Value.cells, Value.oneCell']) (by simp [Value.cells]) rfl ?_)
  clear hF hS; intro a w hF hS
  replace hSS := hS.sub [1] (by decide) rfl (by simp)
  refine ⟨.inr hSS, ?_⟩
  refine ha_done (by kernel_rfl) ?_ _
  refine then_n ?_
  refine c_seq ?_
  refine c_region ?_
  refine seq_yl hF (wn_none rfl) rfl rfl (yl_loadK (rs := [_, _, _]) (fun _ h => h ▸ hS) hF rfl rfl 1 rfl ag25 sz25 rfl rfl) ?_
  clear hF; intro a hF
  refine seq_wp (wn_none rfl) (wp_call (vs := [_]) hF rfl rfl rfl rfl cf13 (secs_any st813 _ _ _ (by omega)) ?_)
  clear hF; rintro _ w ⟨rfl, hS1⟩ a hF
  replace hS := hS.callB hS1 rfl; clear hS1
  refine seq_yl hF (wn_none rfl) rfl rfl (yl_assign hF rfl rfl) ?_
  clear hF; intro a hF
  refine wpList_nil ?_
  refine then_n ?_
  refine c_seq ?_
  refine c_seq ?_
  refine c_region ?_
  refine seq_yl hF (wn_none rfl) rfl rfl (yl_assign hF rfl rfl) ?_
  clear hF; intro a hF
  refine wpList_nil ?_
  refine then_n ?_
  refine wp_block ?_
  replace hS := (hS.toRo 2 rfl).dupRo 2 rfl
  have hde := okD_room hd817d (r2 := (((rm816) + ((rnd (n1) (6 : Int)))))) (by omega) (by omega)
  refine c_loop (fun m a w => ∃ (i : Nat) (sd se : ByteArray) (Ld Le : List E39) (AvA : Option Addr) (cvA : Nat) (AvB : Option Addr) (cvB : Nat), m = 8 - i ∧ (i ≤ 8 ∧ okD sd Ld (rm816) ∧ okD se Le (((rm816) + ((rnd (n1) (6 : Int))))) ∧ (sd.size : Int) = (st813.size : Int) ∧ (se.size : Int) = (st813.size : Int) ∧ flSt sd Ld = flSt se Le ∧ Ld.length ≤ Le.length) ∧ Fr 119 a [(1, .slice Au (M).length cu), (7, .pointer (some ⟨g818, 0, none⟩)), (8, .pointer (some ⟨g819, 0, none⟩)), (9, .int .i64 ((((st813).size : Int) / 8))), (10, .int .i64 ((i : Nat) : Int))] ∧ Sat w0 w (.ro 1 (.slice Au (M).length cu) (M).length (cells encI (M)) :: .box g818 25 #[.string sd, .slice AvA (Ld).length cvA, .int .i64 (rm816)] :: .box g819 25 #[.string se, .slice AvB (Le).length cvB, .int .i64 (((rm816) + ((rnd (n1) (6 : Int)))))] :: .ro 2 (.slice AvA (Ld).length cvA) (Ld).length (cells enc39 (Ld)) :: .ro 2 (.slice AvB (Le).length cvB) (Le).length (cells enc39 (Le)) :: [])) (8 - 0) ?_ ?_
  · exact ⟨0, st813, st813, Lq815, Lq815, Av814, cv814, Av814, cv814, rfl, ⟨by omega, hd817d, hde, rfl, rfl, rfl, Nat.le_refl _⟩, hF.to [1, 7, 8, 9, 10] rfl, (hS.sub [5, 2, 1, 3, 0] (by decide) (by first | rfl | simp) (by simp))⟩
  · clear hF hS; try clear hSS
    clear a w; rintro m a w ⟨i, sd, se, Ld, Le, AvA, cvA, AvB, cvB, rfl, hinv, hF, hS⟩
    obtain ⟨hi, hd1, hd2, hs1, hs2, hcu, hle⟩ := hinv
    have hd1i := okD_I hd1
    have hd2i := okD_I hd2
    refine c_seq ?_
    refine c_seq ?_
    refine c_region ?_
    refine seq_yl hF (wn_none rfl) rfl rfl (yl_move hF rfl rfl) ?_
    clear hF; intro a hF
    refine seq_yl hF (wn_none rfl) rfl rfl (yl_move hF rfl rfl) ?_
    clear hF; intro a hF
    refine seq_yl hF (wn_none rfl) rfl rfl (yl_len hF rfl rfl (fun _ => run_lenRd sl22 (hS.rdRo 0 rfl))) ?_
    clear hF; intro a hF
    refine seq_yl hF (wn_none rfl) rfl rfl (yl_bin hF rfl rfl rfl rfl (fun _ => run_lss)) ?_
    clear hF; intro a hF
    refine seq_yl hF (wn_none rfl) rfl rfl (yl_move hF rfl rfl) ?_
    clear hF; intro a hF
    refine fr_split hF (fun hc821 hF => ?_) (fun hc821 hF => ?_)
    · first | (replace hc821 := of_decide_eq_true hc821) | (replace hc821 := of_decide_eq_false (bnot_t hc821)) | (replace hc821 := bnot_t hc821) | skip
      try (have hc821x := hc821; simp only [okS, okI, okW, okP] at hc821x)
      refine seq_yl hF (wn_t hF rfl rfl rfl rfl) rfl rfl (yl_move hF rfl rfl) ?_
      clear hF; intro a hF
      refine seq_yl hF (wn_t hF rfl rfl rfl rfl) rfl rfl (yl_bin hF rfl rfl rfl rfl (fun _ => run_lss)) ?_
      clear hF; intro a hF
      refine seq_yl hF (wn_none rfl) rfl rfl (yl_pick (u := _) (v := undef) hF rfl rfl (fun _ => rfl) (fun h => by cases h)) ?_
      clear hF; intro a hF
      refine wpList_nil ?_
      refine then_n ?_
      refine c_cond hF rfl (fun hc822 => ?_) (fun hc822 => ?_)
      · first | (replace hc822 := of_decide_eq_true hc822) | (replace hc822 := of_decide_eq_false (bnot_t hc822)) | (replace hc822 := bnot_t hc822) | skip
        try (have hc822x := hc822; simp only [okS, okI, okW, okP] at hc822x)
        refine wp_skip ?_
        refine then_n ?_
        refine c_seq ?_
        refine wp_block ?_
        refine c_seq ?_
        refine c_region ?_
        refine seq_yl hF (wn_none rfl) rfl rfl (yl_move hF rfl rfl) ?_
        clear hF; intro a hF
        refine seq_yl hF (wn_none rfl) rfl rfl (yl_move hF rfl rfl) ?_
        clear hF; intro a hF
        have hlt_hx823 : i < (M).length := by first | omega | (simp; done) | (simp; omega)
        obtain ⟨ad824, rfl⟩ := rd_some (hS.rdRo 0 rfl) hlt_hx823
        obtain ⟨x823, hx823⟩ := get_some hlt_hx823
        refine seq_yl hF (wn_none rfl) rfl rfl (yl_indexAddr hF rfl rfl rfl (fun _ => run_idx' sl22 sz3 (hS.rdRo 0 rfl) hlt_hx823)) ?_
        clear hF; intro a hF
        refine seq_yl hF (wn_none rfl) rfl rfl (yl_loadAt hF rfl rfl ag3 (fun _ h => rd_cell0 (enc := encI) (by subst h; exact hS.rdRo 0 rfl) encI_len hx823 rfl rfl)) ?_
        clear hF; intro a hF
        refine seq_yl hF (wn_none rfl) rfl rfl (yl_move hF rfl rfl) ?_
        clear hF; intro a hF
        have hr825 := rnd_any (x823) ((((st813).size : Int) / 8))
        refine seq_wp (wn_none rfl) (wp_call (vs := [_, _]) hF rfl rfl rfl rfl cf12 (round_any (x823) ((((st813).size : Int) / 8)) _ (by omega)) ?_)
        clear hF; rintro _ w ⟨rfl, hS1⟩ a hF
        replace hS := hS.callB hS1 rfl; clear hS1
        refine seq_yl hF (wn_none rfl) rfl rfl (yl_assign hF rfl rfl) ?_
        clear hF; intro a hF
        refine wpList_nil ?_
        refine then_n ?_
        refine c_seq ?_
        refine c_cut (fun a w => ∃ (st827 : ByteArray) (Lq829 : List E39) (Av828 : Option Addr) (cv828 : Nat), (writeF sd Ld (rm816) ((rnd (x823) ((((st813).size : Int) / 8)))) (dataF (((x823) / 16)) (1 : Int)) false = (st827, Lq829, (rm816), true)) ∧ (okD st827 Lq829 (rm816)) ∧ (((st827).size : Int) = ((sd).size : Int)) ∧ Fr 119 a [(1, .slice (some ad824) (M).length cu), (7, .pointer (some ⟨g818, 0, none⟩)), (8, .pointer (some ⟨g819, 0, none⟩)), (9, .int .i64 ((((st813).size : Int) / 8))), (10, .int .i64 ((i : Nat) : Int)), (11, .int .i64 ((rnd (x823) ((((st813).size : Int) / 8)))))] ∧ Sat w0 w (.row 39 2 (.slice Av828 (Lq829).length cv828) (Lq829).length (cells enc39 (Lq829)) :: .ro 1 (.slice (some ad824) (M).length cu) (M).length (cells encI (M)) :: .box g818 25 #[.string st827, .slice Av828 (Lq829).length cv828, .int .i64 ((rm816))] :: .box g819 25 #[.string se, .slice AvB (Le).length cvB, .int .i64 (((rm816) + ((rnd (n1) (6 : Int)))))] :: .ro 2 (.slice AvA (Ld).length cvA) (Ld).length (cells enc39 (Ld)) :: .ro 2 (.slice AvB (Le).length cvB) (Le).length (cells enc39 (Le)) :: [])) ?_ ?_
        · skip
          refine ha_startS hS [1, 0] 12 (by kernel_rfl) ?_; clear hS; intro w hS
          have hSS := hS.sub [1, 0] (by decide) rfl (by simp)
          refine ha_y 1 hF rfl rfl rfl (wn_none rfl) (.inr hSS) (yl_move hF rfl rfl) ?_
          clear hF; intro a hF
          refine ha_y 2 hF rfl rfl rfl (wn_none rfl) (.inr hSS) (yl_move hF rfl rfl) ?_
          clear hF; intro a hF
          refine ha_y 3 hF rfl rfl rfl (wn_none rfl) (.inr hSS) (yl_move hF rfl rfl) ?_
          clear hF; intro a hF
          refine ha_y 4 hF rfl rfl rfl (wn_none rfl) (.inr hSS) (yl_indexAddr hF rfl rfl rfl (fun _ => run_idx' sl22 sz3 (hS.rdRo 0 rfl) hlt_hx823)) ?_
          clear hF; intro a hF
          refine ha_l 0 hF rfl rfl rfl (wn_none rfl) hSS (yl_loadK (rs := [_, _, _]) (fun _ h => h) hF rfl rfl 0 rfl ag25 sz25 rfl rfl) ?_
          clear hF; intro a hF
          refine ha_l 5 hF rfl rfl rfl (wn_none rfl) hSS (yl_loadAt hF rfl rfl ag3 (fun _ h => rd_cell0 (enc := encI) (Sat.rdRo h 1 rfl) encI_len hx823 rfl rfl)) ?_
          clear hF; intro a hF
          refine ha_y 6 hF rfl rfl rfl (wn_none rfl) (.inr hSS) (yl_bin hF rfl rfl rfl rfl (fun _ => run_shr (c := 4) (d := 16) (by decide) (by decide))) ?_
          clear hF; intro a hF
          refine ha_one 7 (by kernel_rfl) rfl (wn_none rfl) (wp_call (vs := [_, _]) hF rfl rfl rfl rfl cf15 (data_any (((x823) / 16)) (1 : Int) _ (by omega)) ?_)
          clear hF; rintro _ w ⟨rfl, hS1⟩ a hF
          replace hS := hS.callB hS1 rfl; clear hS1
          have hz833 := dataF_size (((x823) / 16)) (1 : Int)
          replace hSS := hS.sub [1, 0] (by decide) rfl (by simp)
          refine ⟨.inr hSS, ?_⟩
          refine ha_one 8 (by kernel_rfl) rfl (wn_none rfl) (wp_call (vs := [_, _, _, _]) hF rfl rfl rfl rfl cf14 (write_any sd _ Ld (rm816) ((rnd (x823) ((((st813).size : Int) / 8)))) (dataF (((x823) / 16)) (1 : Int)) false _ (hS.rdRo 3 rfl) (by first | omega | (simp; done)) (by first | omega | (simp; done)) (by first | omega | (simp; done))) ?_)
          clear hF; rintro _ w ⟨st834, v835, Lq836, rm837, b838, rfl, hq839, hS1⟩ a hF
          replace hS := hS.callB hS1 rfl; clear hS1
          obtain ⟨Av835, cv835, rfl⟩ := hS.form 0 rfl
          have hq839b := writeF_bd hq839
          obtain ⟨rfl, -, -, hq839d, hq839s, rfl⟩ := (writeF_ok hq839).resolve_right (fun h9 => h9.2.1 (⟨hd1, okW_of (by unfold okS okI; omega) (by omega)⟩))
          have hq839i := okD_I hq839d
          replace hSS := hS.sub [2, 1] (by decide) rfl (by simp)
          refine ⟨.inr hSS, ?_⟩
          refine ha_y 9 hF rfl rfl rfl (wn_none rfl) (.inr hSS) (yl_move hF rfl rfl) ?_
          clear hF; intro a hF
          refine ha_y 10 hF rfl rfl rfl (wn_none rfl) (.inr hSS) (yl_extract hF rfl rfl rfl) ?_
          clear hF; intro a hF
          refine ha_y 11 hF rfl rfl rfl (wn_none rfl) (.inr hSS) (yl_extract hF rfl rfl rfl) ?_
          clear hF; intro a hF
          refine ha_one 12 (by kernel_rfl) rfl (wn_none rfl) (wp_store (cs' := #[_, _, _]) hF hS rfl rfl rfl rfl 2 rfl sz25 (by simp [Value.cells, Value.oneCell']) (by simp [Value.cells]) rfl ?_)
          clear hF hS; intro a w hF hS
          refine ⟨.inl (by kernel_rfl), ?_⟩
          refine ha_done (by kernel_rfl) ?_ _
          refine cut_n ?_
          exact ⟨_, _, _, _, hq839, hq839d, hq839s, hF.to [1, 7, 8, 9, 10, 11] rfl, (hS.sub [0, 1, 2, 3, 4, 5] (by decide) (by first | rfl | simp) (by simp))⟩
        clear hF hS
        rintro a w ⟨st827, Lq829, Av828, cv828, hcut825_0, hcut825_1, hcut825_2, hF, hS⟩
        have hq832 := hcut825_0; have hq832b := writeF_bd hq832
        have hq832d := hcut825_1; have hq832s := hcut825_2; have hq832i := okD_I hq832d
        refine then_n ?_
        refine c_seq ?_
        refine c_cut (fun a w => ∃ (st841 : ByteArray) (Lq843 : List E39) (Av842 : Option Addr) (cv842 : Nat), (writeF se Le (((rm816) + ((rnd (n1) (6 : Int))))) ((rnd (x823) ((((st813).size : Int) / 8)))) (dataF (((x823) / 16)) (1 : Int)) false = (st841, Lq843, (((rm816) + ((rnd (n1) (6 : Int))))), true)) ∧ (okD st841 Lq843 (((rm816) + ((rnd (n1) (6 : Int)))))) ∧ (((st841).size : Int) = ((se).size : Int)) ∧ Fr 119 a [(1, .slice (some ad824) (M).length cu), (7, .pointer (some ⟨g818, 0, none⟩)), (8, .pointer (some ⟨g819, 0, none⟩)), (9, .int .i64 ((((st813).size : Int) / 8))), (10, .int .i64 ((i : Nat) : Int)), (11, .int .i64 ((rnd (x823) ((((st813).size : Int) / 8)))))] ∧ Sat w0 w (.row 39 2 (.slice Av842 (Lq843).length cv842) (Lq843).length (cells enc39 (Lq843)) :: .row 39 2 (.slice Av828 (Lq829).length cv828) (Lq829).length (cells enc39 (Lq829)) :: .ro 1 (.slice (some ad824) (M).length cu) (M).length (cells encI (M)) :: .box g818 25 #[.string st827, .slice Av828 (Lq829).length cv828, .int .i64 ((rm816))] :: .box g819 25 #[.string st841, .slice Av842 (Lq843).length cv842, .int .i64 ((((rm816) + ((rnd (n1) (6 : Int))))))] :: .ro 2 (.slice AvA (Ld).length cvA) (Ld).length (cells enc39 (Ld)) :: .ro 2 (.slice AvB (Le).length cvB) (Le).length (cells enc39 (Le)) :: [])) ?_ ?_
        · skip
          refine ha_startS hS [3, 1] 12 (by kernel_rfl) ?_; clear hS; intro w hS
          have hSS := hS.sub [3, 1] (by decide) rfl (by simp)
          refine ha_y 1 hF rfl rfl rfl (wn_none rfl) (.inr hSS) (yl_move hF rfl rfl) ?_
          clear hF; intro a hF
          refine ha_y 2 hF rfl rfl rfl (wn_none rfl) (.inr hSS) (yl_move hF rfl rfl) ?_
          clear hF; intro a hF
          refine ha_y 3 hF rfl rfl rfl (wn_none rfl) (.inr hSS) (yl_move hF rfl rfl) ?_
          clear hF; intro a hF
          refine ha_y 4 hF rfl rfl rfl (wn_none rfl) (.inr hSS) (yl_indexAddr hF rfl rfl rfl (fun _ => run_idx' sl22 sz3 (hS.rdRo 1 rfl) hlt_hx823)) ?_
          clear hF; intro a hF
          refine ha_l 0 hF rfl rfl rfl (wn_none rfl) hSS (yl_loadK (rs := [_, _, _]) (fun _ h => h) hF rfl rfl 0 rfl ag25 sz25 rfl rfl) ?_
          clear hF; intro a hF
          refine ha_l 5 hF rfl rfl rfl (wn_none rfl) hSS (yl_loadAt hF rfl rfl ag3 (fun _ h => rd_cell0 (enc := encI) (Sat.rdRo h 1 rfl) encI_len hx823 rfl rfl)) ?_
          clear hF; intro a hF
          refine ha_y 6 hF rfl rfl rfl (wn_none rfl) (.inr hSS) (yl_bin hF rfl rfl rfl rfl (fun _ => run_shr (c := 4) (d := 16) (by decide) (by decide))) ?_
          clear hF; intro a hF
          refine ha_one 7 (by kernel_rfl) rfl (wn_none rfl) (wp_call (vs := [_, _]) hF rfl rfl rfl rfl cf15 (data_any (((x823) / 16)) (1 : Int) _ (by omega)) ?_)
          clear hF; rintro _ w ⟨rfl, hS1⟩ a hF
          replace hS := hS.callB hS1 rfl; clear hS1
          have hz847 := dataF_size (((x823) / 16)) (1 : Int)
          replace hSS := hS.sub [3, 1] (by decide) rfl (by simp)
          refine ⟨.inr hSS, ?_⟩
          refine ha_one 8 (by kernel_rfl) rfl (wn_none rfl) (wp_call (vs := [_, _, _, _]) hF rfl rfl rfl rfl cf14 (write_any se _ Le (((rm816) + ((rnd (n1) (6 : Int))))) ((rnd (x823) ((((st813).size : Int) / 8)))) (dataF (((x823) / 16)) (1 : Int)) false _ (hS.rdRo 5 rfl) (by first | omega | (simp; done)) (by first | omega | (simp; done)) (by first | omega | (simp; done))) ?_)
          clear hF; rintro _ w ⟨st848, v849, Lq850, rm851, b852, rfl, hq853, hS1⟩ a hF
          replace hS := hS.callB hS1 rfl; clear hS1
          obtain ⟨Av849, cv849, rfl⟩ := hS.form 0 rfl
          have hq853b := writeF_bd hq853
          obtain ⟨rfl, -, -, hq853d, hq853s, rfl⟩ := (writeF_ok hq853).resolve_right (fun h9 => h9.2.1 (⟨hd2, okW_of (by unfold okS okI; omega) (by omega)⟩))
          have hq853i := okD_I hq853d
          replace hSS := hS.sub [4, 2] (by decide) rfl (by simp)
          refine ⟨.inr hSS, ?_⟩
          refine ha_y 9 hF rfl rfl rfl (wn_none rfl) (.inr hSS) (yl_move hF rfl rfl) ?_
          clear hF; intro a hF
          refine ha_y 10 hF rfl rfl rfl (wn_none rfl) (.inr hSS) (yl_extract hF rfl rfl rfl) ?_
          clear hF; intro a hF
          refine ha_y 11 hF rfl rfl rfl (wn_none rfl) (.inr hSS) (yl_extract hF rfl rfl rfl) ?_
          clear hF; intro a hF
          refine ha_one 12 (by kernel_rfl) rfl (wn_none rfl) (wp_store (cs' := #[_, _, _]) hF hS rfl rfl rfl rfl 4 rfl sz25 (by simp [Value.cells, Value.oneCell']) (by simp [Value.cells]) rfl ?_)
          clear hF hS; intro a w hF hS
          refine ⟨.inl (by kernel_rfl), ?_⟩
          refine ha_done (by kernel_rfl) ?_ _
          refine cut_n ?_
          exact ⟨_, _, _, _, hq853, hq853d, hq853s, hF.to [1, 7, 8, 9, 10, 11] rfl, (hS.sub [0, 1, 2, 3, 4, 5, 6] (by decide) (by first | rfl | simp) (by simp))⟩
        clear hF hS
        rintro a w ⟨st841, Lq843, Av842, cv842, hcut839_0, hcut839_1, hcut839_2, hF, hS⟩
        have hq846 := hcut839_0; have hq846b := writeF_bd hq846
        have hq846d := hcut839_1; have hq846s := hcut839_2; have hq846i := okD_I hq846d
        refine then_n ?_
        refine c_seq ?_
        refine c_region ?_
        have hcx : flSt st827 Lq829 = flSt st841 Lq843 := by rw [cur_write hq832, cur_write hq846, hcu]
        have hlp := wr_len (data8 _) hq832; have hlq := wr_len (data8 _) hq846
        have hr1 := read_all (c := ((((st813).size : Int) / 8))) hq832d (by omega) (by omega); have hr2 := read_all (c := ((((st813).size : Int) / 8))) hq846d (by omega) (by omega)
        refine seq_yl hF (wn_none rfl) rfl rfl (yl_loadK (rs := [_, _, _]) (fun _ h => h ▸ hS) hF rfl rfl 3 rfl ag25 sz25 rfl rfl) ?_
        clear hF; intro a hF
        refine seq_yl hF (wn_none rfl) rfl rfl (yl_move hF rfl rfl) ?_
        clear hF; intro a hF
        refine seq_wp (wn_none rfl) (wp_call (vs := [_, _, _]) hF rfl rfl rfl rfl cf20 (read_any st827 _ Lq829 ((rm816)) (0 : Int) ((((st813).size : Int) / 8)) _ (hS.rdRow 1 rfl) (by first | omega | (simp; done)) (by first | omega | (simp; done))) ?_)
        clear hF; rintro _ w ⟨rfl, hS1⟩ a hF
        replace hS := hS.callB hS1 rfl; clear hS1
        have hz854 := readF_bd st827 Lq829 ((rm816)) (0 : Int) ((((st813).size : Int) / 8))
        refine seq_yl hF (wn_none rfl) rfl rfl (yl_move hF rfl rfl) ?_
        clear hF; intro a hF
        refine seq_yl hF (wn_none rfl) rfl rfl (yl_extract hF rfl rfl rfl) ?_
        clear hF; intro a hF
        refine seq_yl hF (wn_none rfl) rfl rfl (yl_extract hF rfl rfl rfl) ?_
        clear hF; intro a hF
        replace hF := fr_set (b' := true) hF (by rw [hr1])
        refine seq_yl hF (wn_none rfl) rfl rfl (yl_assign hF rfl rfl) ?_
        clear hF; intro a hF
        refine seq_yl hF (wn_none rfl) rfl rfl (yl_assign hF rfl rfl) ?_
        clear hF; intro a hF
        refine wpList_nil ?_
        refine then_n ?_
        refine c_seq ?_
        refine c_region ?_
        refine seq_yl hF (wn_none rfl) rfl rfl (yl_loadK (rs := [_, _, _]) (fun _ h => h ▸ hS) hF rfl rfl 4 rfl ag25 sz25 rfl rfl) ?_
        clear hF; intro a hF
        refine seq_yl hF (wn_none rfl) rfl rfl (yl_move hF rfl rfl) ?_
        clear hF; intro a hF
        refine seq_wp (wn_none rfl) (wp_call (vs := [_, _, _]) hF rfl rfl rfl rfl cf20 (read_any st841 _ Lq843 ((((rm816) + ((rnd (n1) (6 : Int)))))) (0 : Int) ((((st813).size : Int) / 8)) _ (hS.rdRow 0 rfl) (by first | omega | (simp; done)) (by first | omega | (simp; done))) ?_)
        clear hF; rintro _ w ⟨rfl, hS1⟩ a hF
        replace hS := hS.callB hS1 rfl; clear hS1
        have hz855 := readF_bd st841 Lq843 ((((rm816) + ((rnd (n1) (6 : Int)))))) (0 : Int) ((((st813).size : Int) / 8))
        refine seq_yl hF (wn_none rfl) rfl rfl (yl_move hF rfl rfl) ?_
        clear hF; intro a hF
        refine seq_yl hF (wn_none rfl) rfl rfl (yl_extract hF rfl rfl rfl) ?_
        clear hF; intro a hF
        refine seq_yl hF (wn_none rfl) rfl rfl (yl_extract hF rfl rfl rfl) ?_
        clear hF; intro a hF
        replace hF := fr_set (b' := true) hF (by rw [hr2])
        refine seq_yl hF (wn_none rfl) rfl rfl (yl_assign hF rfl rfl) ?_
        clear hF; intro a hF
        refine seq_yl hF (wn_none rfl) rfl rfl (yl_assign hF rfl rfl) ?_
        clear hF; intro a hF
        refine wpList_nil ?_
        refine then_n ?_
        refine c_seq ?_
        refine c_region ?_
        refine seq_yl hF (wn_none rfl) rfl rfl (yl_move hF rfl rfl) ?_
        clear hF; intro a hF
        refine seq_yl hF (wn_none rfl) rfl rfl (yl_un hF rfl rfl (fun _ => run_not)) ?_
        clear hF; intro a hF
        refine seq_yl hF (wn_none rfl) rfl rfl (yl_move hF rfl rfl) ?_
        clear hF; intro a hF
        refine seq_yl hF (wn_t hF rfl rfl rfl rfl) rfl rfl (yl_move hF rfl rfl) ?_
        clear hF; intro a hF
        refine seq_yl hF (wn_t hF rfl rfl rfl rfl) rfl rfl (yl_un hF rfl rfl (fun _ => run_not)) ?_
        clear hF; intro a hF
        refine seq_yl hF (wn_none rfl) rfl rfl (yl_pick (u := _) (v := undef) hF rfl rfl (fun h => by cases h) (fun _ => rfl)) ?_
        clear hF; intro a hF
        refine seq_yl hF (wn_none rfl) rfl rfl (yl_move hF rfl rfl) ?_
        clear hF; intro a hF
        refine seq_yl hF (wn_t hF rfl rfl rfl rfl) rfl rfl (yl_move hF rfl rfl) ?_
        clear hF; intro a hF
        refine seq_yl hF (wn_t hF rfl rfl rfl rfl) rfl rfl (yl_move hF rfl rfl) ?_
        clear hF; intro a hF
        refine seq_yl hF (wn_t hF rfl rfl rfl rfl) rfl rfl (yl_bin hF rfl rfl rfl rfl (fun _ => run_str_neq)) ?_
        clear hF; intro a hF
        replace hF := fr_set (b' := false) hF (by rw [decide_eq_false_iff_not, hr1, hr2]; exact not_not_intro hcx)
        refine seq_yl hF (wn_none rfl) rfl rfl (yl_pick (u := _) (v := undef) hF rfl rfl (fun h => by cases h) (fun _ => rfl)) ?_
        clear hF; intro a hF
        refine seq_yl hF (wn_none rfl) rfl rfl (yl_move hF rfl rfl) ?_
        clear hF; intro a hF
        refine seq_yl hF (wn_t hF rfl rfl rfl rfl) rfl rfl (yl_fieldAddr hF rfl rfl (fun w => by kernel_rfl : ∀ w, (Instr.fieldAt 25 (.pointer (some ⟨g818, 0, none⟩)) 1).run Try.prog w = .ok (.pointer (some ⟨g818, 1, none⟩)) w)) ?_
        clear hF; intro a hF
        refine seq_yl hF (wn_t hF rfl rfl rfl rfl) rfl rfl (yl_load (fun _ h => h ▸ hS) hF rfl rfl 3 rfl ag23 rfl) ?_
        clear hF; intro a hF
        refine seq_yl hF (wn_t hF rfl rfl rfl rfl) rfl rfl (yl_len hF rfl rfl (fun _ => run_lenRd sl23 (hS.rdRow 1 rfl))) ?_
        clear hF; intro a hF
        refine seq_yl hF (wn_t hF rfl rfl rfl rfl) rfl rfl (yl_fieldAddr hF rfl rfl (fun w => by kernel_rfl : ∀ w, (Instr.fieldAt 25 (.pointer (some ⟨g818, 0, none⟩)) 2).run Try.prog w = .ok (.pointer (some ⟨g818, 2, none⟩)) w)) ?_
        clear hF; intro a hF
        refine seq_yl hF (wn_t hF rfl rfl rfl rfl) rfl rfl (yl_load (fun _ h => h ▸ hS) hF rfl rfl 3 rfl ag3 rfl) ?_
        clear hF; intro a hF
        refine seq_yl hF (wn_t hF rfl rfl rfl rfl) rfl rfl (yl_bin hF rfl rfl rfl rfl (fun _ => run_gtr)) ?_
        clear hF; intro a hF
        replace hF := fr_set (b' := false) hF (by rw [decide_eq_false_iff_not]; omega)
        refine seq_yl hF (wn_none rfl) rfl rfl (yl_pick (u := _) (v := undef) hF rfl rfl (fun h => by cases h) (fun _ => rfl)) ?_
        clear hF; intro a hF
        refine seq_yl hF (wn_none rfl) rfl rfl (yl_move hF rfl rfl) ?_
        clear hF; intro a hF
        refine seq_yl hF (wn_t hF rfl rfl rfl rfl) rfl rfl (yl_fieldAddr hF rfl rfl (fun w => by kernel_rfl : ∀ w, (Instr.fieldAt 25 (.pointer (some ⟨g819, 0, none⟩)) 1).run Try.prog w = .ok (.pointer (some ⟨g819, 1, none⟩)) w)) ?_
        clear hF; intro a hF
        refine seq_yl hF (wn_t hF rfl rfl rfl rfl) rfl rfl (yl_load (fun _ h => h ▸ hS) hF rfl rfl 4 rfl ag23 rfl) ?_
        clear hF; intro a hF
        refine seq_yl hF (wn_t hF rfl rfl rfl rfl) rfl rfl (yl_len hF rfl rfl (fun _ => run_lenRd sl23 (hS.rdRow 0 rfl))) ?_
        clear hF; intro a hF
        refine seq_yl hF (wn_t hF rfl rfl rfl rfl) rfl rfl (yl_fieldAddr hF rfl rfl (fun w => by kernel_rfl : ∀ w, (Instr.fieldAt 25 (.pointer (some ⟨g818, 0, none⟩)) 1).run Try.prog w = .ok (.pointer (some ⟨g818, 1, none⟩)) w)) ?_
        clear hF; intro a hF
        refine seq_yl hF (wn_t hF rfl rfl rfl rfl) rfl rfl (yl_load (fun _ h => h ▸ hS) hF rfl rfl 3 rfl ag23 rfl) ?_
        clear hF; intro a hF
        refine seq_yl hF (wn_t hF rfl rfl rfl rfl) rfl rfl (yl_len hF rfl rfl (fun _ => run_lenRd sl23 (hS.rdRow 1 rfl))) ?_
        clear hF; intro a hF
        refine seq_yl hF (wn_t hF rfl rfl rfl rfl) rfl rfl (yl_bin hF rfl rfl rfl rfl (fun _ => run_lss)) ?_
        clear hF; intro a hF
        replace hF := fr_set (b' := false) hF (by rw [decide_eq_false_iff_not]; omega)
        refine seq_yl hF (wn_none rfl) rfl rfl (yl_pick (u := _) (v := undef) hF rfl rfl (fun h => by cases h) (fun _ => rfl)) ?_
        clear hF; intro a hF
        refine seq_yl hF (wn_none rfl) rfl rfl (yl_move hF rfl rfl) ?_
        clear hF; intro a hF
        refine seq_yl hF (wn_t hF rfl rfl rfl rfl) rfl rfl (yl_fieldAddr hF rfl rfl (fun w => by kernel_rfl : ∀ w, (Instr.fieldAt 25 (.pointer (some ⟨g818, 0, none⟩)) 2).run Try.prog w = .ok (.pointer (some ⟨g818, 2, none⟩)) w)) ?_
        clear hF; intro a hF
        refine seq_yl hF (wn_t hF rfl rfl rfl rfl) rfl rfl (yl_load (fun _ h => h ▸ hS) hF rfl rfl 3 rfl ag3 rfl) ?_
        clear hF; intro a hF
        refine seq_yl hF (wn_t hF rfl rfl rfl rfl) rfl rfl (yl_bin hF rfl rfl rfl rfl (fun _ => run_eql)) ?_
        clear hF; intro a hF
        refine seq_yl hF (wn_t hF rfl rfl rfl rfl) rfl rfl (yl_move hF rfl rfl) ?_
        clear hF; intro a hF
        refine fr_split hF (fun hc856 hF => ?_) (fun hc856 hF => ?_)
        · first | (replace hc856 := of_decide_eq_true hc856) | (replace hc856 := of_decide_eq_false (bnot_t hc856)) | (replace hc856 := bnot_t hc856) | skip
          try (have hc856x := hc856; simp only [okS, okI, okW, okP] at hc856x)
          refine seq_yl hF (wn_t hF rfl rfl rfl rfl) rfl rfl (yl_fieldAddr hF rfl rfl (fun w => by kernel_rfl : ∀ w, (Instr.fieldAt 25 (.pointer (some ⟨g818, 0, none⟩)) 0).run Try.prog w = .ok (.pointer (some ⟨g818, 0, none⟩)) w)) ?_
          clear hF; intro a hF
          refine seq_yl hF (wn_t hF rfl rfl rfl rfl) rfl rfl (yl_load (fun _ h => h ▸ hS) hF rfl rfl 3 rfl ag9 rfl) ?_
          clear hF; intro a hF
          refine seq_yl hF (wn_t hF rfl rfl rfl rfl) rfl rfl (yl_move hF rfl rfl) ?_
          clear hF; intro a hF
          refine seq_yl hF (wn_t hF rfl rfl rfl rfl) rfl rfl (yl_bin hF rfl rfl rfl rfl (fun _ => run_str_neq)) ?_
          clear hF; intro a hF
          replace hF := fr_set (b' := false) hF (by rw [decide_eq_false_iff_not]; refine not_not_intro ?_; rw [hr1]; exact (flSt_nil (by omega)).symm)
          refine seq_yl hF (wn_t hF rfl rfl rfl rfl) rfl rfl (yl_pick (u := _) (v := undef) hF rfl rfl (fun _ => rfl) (fun h => by cases h)) ?_
          clear hF; intro a hF
          refine seq_yl hF (wn_none rfl) rfl rfl (yl_pick (u := _) (v := undef) hF rfl rfl (fun h => by cases h) (fun _ => rfl)) ?_
          clear hF; intro a hF
          refine wpList_nil ?_
          refine then_n ?_
          refine c_cond_f hF rfl ?_
          refine wp_skip ?_
          refine inb_n ?_
          refine then_n ?_
          refine c_region ?_
          refine seq_yl hF (wn_none rfl) rfl rfl (yl_move hF rfl rfl) ?_
          clear hF; intro a hF
          refine seq_yl hF (wn_none rfl) rfl rfl (yl_bin hF rfl rfl rfl rfl (fun _ => run_inc (by omega))) ?_
          clear hF; intro a hF
          refine seq_yl hF (wn_none rfl) rfl rfl (yl_assign hF rfl rfl) ?_
          clear hF; intro a hF
          refine wpList_nil ?_
          refine then_n ?_
          replace hS := hS.toRo 1 rfl
          replace hS := hS.toRo 0 rfl
          exact ⟨_, (by omega), i + 1, st827, st841, Lq829, Lq843, Av828, cv828, Av842, cv842, rfl, ⟨by omega, hq832d, hq846d, by omega, by omega, hcx, by omega⟩, hF.to [1, 7, 8, 9, 10] rfl, (hS.sub [2, 3, 4, 1, 0] (by decide) (by first | rfl | simp) (by simp))⟩
        · first | (replace hc856 := of_decide_eq_false hc856) | (replace hc856 := of_decide_eq_true (bnot_f hc856)) | (replace hc856 := bnot_f hc856) | skip
          try (have hc856x := hc856; simp only [okS, okI, okW, okP] at hc856x)
          refine seq_skip hF (wn_f hF rfl rfl rfl rfl) rfl rfl ?_
          clear hF; intro a hF
          refine seq_skip hF (wn_f hF rfl rfl rfl rfl) rfl rfl ?_
          clear hF; intro a hF
          refine seq_skip hF (wn_f hF rfl rfl rfl rfl) rfl rfl ?_
          clear hF; intro a hF
          refine seq_skip hF (wn_f hF rfl rfl rfl rfl) rfl rfl ?_
          clear hF; intro a hF
          refine seq_yl hF (wn_t hF rfl rfl rfl rfl) rfl rfl (yl_pick (u := _) (v := undef) hF rfl rfl (fun h => by cases h) (fun _ => rfl)) ?_
          clear hF; intro a hF
          refine seq_yl hF (wn_none rfl) rfl rfl (yl_pick (u := _) (v := undef) hF rfl rfl (fun h => by cases h) (fun _ => rfl)) ?_
          clear hF; intro a hF
          refine wpList_nil ?_
          refine then_n ?_
          refine c_cond_f hF rfl ?_
          refine wp_skip ?_
          refine inb_n ?_
          refine then_n ?_
          refine c_region ?_
          refine seq_yl hF (wn_none rfl) rfl rfl (yl_move hF rfl rfl) ?_
          clear hF; intro a hF
          refine seq_yl hF (wn_none rfl) rfl rfl (yl_bin hF rfl rfl rfl rfl (fun _ => run_inc (by omega))) ?_
          clear hF; intro a hF
          refine seq_yl hF (wn_none rfl) rfl rfl (yl_assign hF rfl rfl) ?_
          clear hF; intro a hF
          refine wpList_nil ?_
          refine then_n ?_
          replace hS := hS.toRo 1 rfl
          replace hS := hS.toRo 0 rfl
          exact ⟨_, (by omega), i + 1, st827, st841, Lq829, Lq843, Av828, cv828, Av842, cv842, rfl, ⟨by omega, hq832d, hq846d, by omega, by omega, hcx, by omega⟩, hF.to [1, 7, 8, 9, 10] rfl, (hS.sub [2, 3, 4, 1, 0] (by decide) (by first | rfl | simp) (by simp))⟩
      · first | (replace hc822 := of_decide_eq_false hc822) | (replace hc822 := of_decide_eq_true (bnot_f hc822)) | (replace hc822 := bnot_f hc822) | skip
        try (have hc822x := hc822; simp only [okS, okI, okW, okP] at hc822x)
        refine wp_exit ?_
        refine then_x ?_
        refine then_x ?_
        refine inb_x ?_
        refine then_n ?_
        refine c_seq ?_
        refine c_region ?_
        refine seq_wp (wn_none rfl) (wp_call (vs := []) hF rfl rfl rfl rfl cf18 (awake_any _) ?_)
        clear hF; rintro _ w ⟨rfl, hS1⟩ a hF
        replace hS := hS.callB hS1 rfl; clear hS1
        refine seq_yl hF (wn_none rfl) rfl rfl (yl_assign hF rfl rfl) ?_
        clear hF; intro a hF
        refine wpList_nil ?_
        refine then_n ?_
        refine wp_ret ?_
        refine ret_t hF rfl rfl ?_
        exact ⟨_, rfl, rfl, (hS.sub [] (by decide) (by first | rfl | simp) (by simp))⟩
    · first | (replace hc821 := of_decide_eq_false hc821) | (replace hc821 := of_decide_eq_true (bnot_f hc821)) | (replace hc821 := bnot_f hc821) | skip
      try (have hc821x := hc821; simp only [okS, okI, okW, okP] at hc821x)
      refine seq_skip hF (wn_f hF rfl rfl rfl rfl) rfl rfl ?_
      clear hF; intro a hF
      refine seq_skip hF (wn_f hF rfl rfl rfl rfl) rfl rfl ?_
      clear hF; intro a hF
      refine seq_yl hF (wn_none rfl) rfl rfl (yl_pick (u := _) (v := undef) hF rfl rfl (fun h => by cases h) (fun _ => rfl)) ?_
      clear hF; intro a hF
      refine wpList_nil ?_
      refine then_n ?_
      refine c_cond_f hF rfl ?_
      refine wp_exit ?_
      refine then_x ?_
      refine then_x ?_
      refine inb_x ?_
      refine then_n ?_
      refine c_seq ?_
      refine c_region ?_
      refine seq_wp (wn_none rfl) (wp_call (vs := []) hF rfl rfl rfl rfl cf18 (awake_any _) ?_)
      clear hF; rintro _ w ⟨rfl, hS1⟩ a hF
      replace hS := hS.callB hS1 rfl; clear hS1
      refine seq_yl hF (wn_none rfl) rfl rfl (yl_assign hF rfl rfl) ?_
      clear hF; intro a hF
      refine wpList_nil ?_
      refine then_n ?_
      refine wp_ret ?_
      refine ret_t hF rfl rfl ?_
      exact ⟨_, rfl, rfl, (hS.sub [] (by decide) (by first | rfl | simp) (by simp))⟩

end Go.Proofs.Yteidhjdkaaddgaa

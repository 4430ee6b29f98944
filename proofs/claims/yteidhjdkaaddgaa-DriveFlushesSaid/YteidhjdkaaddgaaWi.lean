/- walks, printed by wip/gen -/
import Derived.Test.YteidhjdkaaddgaaWa
import Derived.Test.YteidhjdkaaddgaaW6
import Derived.Test.YteidhjdkaaddgaaW7
import Derived.Test.YteidhjdkaaddgaaWB
namespace Go.Proofs.Yteidhjdkaaddgaa
open Go.RowKit
set_option linter.unusedVariables false
set_option linter.unusedSimpArgs false

set_option maxHeartbeats 2000000 in
set_option maxRecDepth 100000 in
theorem flushes_any (v u : Value) (L M : List Int) (w0 : World) (hv : Rd w0 1 v (L).length (cells encI (L))) (hu : Rd w0 1 u (M).length (cells encI (M))) (hL : L.length ≤ 9223372036854775807) (hM : M.length ≤ 9223372036854775807) :
    Fn Try.prog 10 #[v, u] w0 (fun v w' => v = .bool true ∧ Sat w0 w' []) := by
  obtain ⟨Av, cv, rfl⟩ := Rd.form hv
  obtain ⟨Au, cu, rfl⟩ := Rd.form hu
  refine c_enter (N := 85) (l := [_, _]) Try.func10 rfl rfl (fun a w hF hS => ?_)
  replace hS := hS.addRo hu
  replace hS := hS.addRo hv
  refine c_seq ?_
  refine c_region ?_
  refine seq_yl hF (wn_none rfl) rfl rfl (yl_assign hF rfl rfl) ?_
  clear hF; intro a hF
  refine wpList_nil ?_
  refine then_n ?_
  refine c_seq ?_
  refine c_region ?_
  refine seq_yl hF (wn_none rfl) rfl rfl (yl_move hF rfl rfl) ?_
  clear hF; intro a hF
  refine seq_wp (wn_none rfl) (wp_call (vs := [_]) hF rfl rfl rfl rfl cf11 (drive_any _ L _ (hS.rdRo 0 rfl) (by first | omega | (simp; done) | (simp; omega))) ?_)
  clear hF; rintro _ w ⟨st857, v858, Lq859, rm860, rfl, hd861, hS1⟩ a hF
  replace hS := hS.callB hS1 rfl; clear hS1
  obtain ⟨Av858, cv858, rfl⟩ := hS.form 0 rfl
  obtain ⟨hd861d, hd861s⟩ := hd861; have hd861i := okD_I hd861d
  refine seq_wp (wn_none rfl) (wp_alloc (cs := #[_, _, _]) hF hS rfl rfl rfl zr25 rfl ?_)
  clear hF hS; intro a w g862 hF hS
  refine seq_wp (wn_none rfl) (wp_store (cs' := #[_, _, _]) hF hS rfl rfl rfl rfl 0 rfl sz25 (by simp [Value.cells, Value.oneCell']) (by simp [Value.cells]) rfl ?_)
  clear hF hS; intro a w hF hS
  refine wpList_nil ?_
  refine then_n ?_
  refine c_seq ?_
  refine c_region ?_
  refine seq_yl hF (wn_none rfl) rfl rfl (yl_loadK (rs := [_, _, _]) (fun _ h => h ▸ hS) hF rfl rfl 0 rfl ag25 sz25 rfl rfl) ?_
  clear hF; intro a hF
  refine seq_wp (wn_none rfl) (wp_call (vs := [_]) hF rfl rfl rfl rfl cf21 (flush_any st857 _ Lq859 (rm860) _ (hS.rdRow 1 rfl) (by first | omega | (simp; done)) (by first | omega | (simp; done))) ?_)
  clear hF; rintro _ w ⟨st863, rm864, v865, rfl, hq866, hE867, hS1⟩ a hF
  replace hS := hS.callB hS1 rfl; clear hS1
  have hq866b := flushF_bd hq866; replace hS := hS.addRo (hE867.rd enc39 2 _); obtain ⟨Av865, cv865, rfl⟩ := (hE867.rd enc39 2 w).form
  refine seq_wp (wn_none rfl) (wp_alloc (cs := #[_, _, _]) hF hS rfl rfl rfl zr25 rfl ?_)
  clear hF hS; intro a w g868 hF hS
  refine seq_wp (wn_none rfl) (wp_store (cs' := #[_, _, _]) hF hS rfl rfl rfl rfl 0 rfl sz25 (by simp [Value.cells, Value.oneCell']) (by simp [Value.cells]) rfl ?_)
  clear hF hS; intro a w hF hS
  refine wpList_nil ?_
  refine then_n ?_
  refine c_seq ?_
  refine c_region ?_
  refine seq_yl hF (wn_none rfl) rfl rfl (yl_loadK (rs := [_, _, _]) (fun _ h => h ▸ hS) hF rfl rfl 2 rfl ag25 sz25 rfl rfl) ?_
  clear hF; intro a hF
  refine seq_wp (wn_none rfl) (wp_alloc (cs := #[_, _, _]) hF hS rfl rfl rfl zr25 rfl ?_)
  clear hF hS; intro a w g869 hF hS
  refine seq_wp (wn_none rfl) (wp_store (cs' := #[_, _, _]) hF hS rfl rfl rfl rfl 0 rfl sz25 (by simp [Value.cells, Value.oneCell']) (by simp [Value.cells]) rfl ?_)
  clear hF hS; intro a w hF hS
  refine wpList_nil ?_
  refine then_n ?_
  refine c_seq ?_
  refine c_seq ?_
  refine c_region ?_
  refine seq_yl hF (wn_none rfl) rfl rfl (yl_assign hF rfl rfl) ?_
  clear hF; intro a hF
  refine wpList_nil ?_
  refine then_n ?_
  refine wp_block ?_
  replace hS := (hS.toRo 4 rfl).dupRo 4 rfl
  have hf0 := flushF_eq hd861d hq866; obtain ⟨rfl, rfl⟩ := hf0
  refine c_loop (fun m a w => ∃ (i : Nat) (se : ByteArray) (Le : List E39) (AvB : Option Addr) (cvB : Nat), m = 6 - i ∧ (i ≤ 6 ∧ okD se Le rm860 ∧ (se.size : Int) = (st857.size : Int) ∧ flSt se Le = flSt st857 Lq859) ∧ Fr 85 a [(1, .slice Au (M).length cu), (5, .pointer (some ⟨g862, 0, none⟩)), (6, .pointer (some ⟨g868, 0, none⟩)), (7, .pointer (some ⟨g869, 0, none⟩)), (8, .int .i64 ((i : Nat) : Int))] ∧ Sat w0 w (.ro 1 (.slice Au (M).length cu) (M).length (cells encI (M)) :: .box g862 25 #[.string st857, .slice Av858 (Lq859).length cv858, .int .i64 (rm860)] :: .box g868 25 #[.string (flSt st857 Lq859), .slice Av865 (([] : List E39)).length cv865, .int .i64 (rm860)] :: .box g869 25 #[.string se, .slice AvB (Le).length cvB, .int .i64 (rm860)] :: .ro 2 (.slice Av858 (Lq859).length cv858) (Lq859).length (cells enc39 (Lq859)) :: .ro 2 (.slice Av865 (([] : List E39)).length cv865) (([] : List E39)).length (cells enc39 (([] : List E39))) :: .ro 2 (.slice AvB (Le).length cvB) (Le).length (cells enc39 (Le)) :: [])) (6 - 0) ?_ ?_
  · exact ⟨0, st857, Lq859, Av858, cv858, rfl, ⟨by omega, hd861d, rfl, rfl⟩, hF.to [1, 5, 6, 7, 8] rfl, (hS.sub [7, 4, 2, 1, 5, 3, 0] (by decide) (by first | rfl | simp) (by simp))⟩
  · clear hF hS; try clear hSS
    clear a w; rintro m a w ⟨i, se, Le, AvB, cvB, rfl, hinv, hF, hS⟩
    obtain ⟨hi, hd2, hs2, hcu⟩ := hinv
    have hd2i := okD_I hd2
    refine c_seq ?_
    refine c_seq ?_
    refine c_region ?_
    refine seq_yl hF (wn_none rfl) rfl rfl (yl_move hF rfl rfl) ?_
    clear hF; intro a hF
    refine seq_yl hF (wn_none rfl) rfl rfl (yl_move hF rfl rfl) ?_
    clear hF; intro a hF
    refine seq_yl hF (wn_none rfl) rfl rfl (yl_len hF rfl rfl (fun _ => run_lenRd sl22 (hS.rdRo 0 rfl))) ?_
    clear hF; intro a hF
    refine seq_yl hF (wn_none rfl) rfl rfl (yl_bin hF rfl rfl rfl rfl (fun _ => run_lss)) ?_
    clear hF; intro a hF
    refine seq_yl hF (wn_none rfl) rfl rfl (yl_move hF rfl rfl) ?_
    clear hF; intro a hF
    refine fr_split hF (fun hc870 hF => ?_) (fun hc870 hF => ?_)
    · first | (replace hc870 := of_decide_eq_true hc870) | (replace hc870 := of_decide_eq_false (bnot_t hc870)) | (replace hc870 := bnot_t hc870) | skip
      try (have hc870x := hc870; simp only [okS, okI, okW, okP] at hc870x)
      refine seq_yl hF (wn_t hF rfl rfl rfl rfl) rfl rfl (yl_move hF rfl rfl) ?_
      clear hF; intro a hF
      refine seq_yl hF (wn_t hF rfl rfl rfl rfl) rfl rfl (yl_bin hF rfl rfl rfl rfl (fun _ => run_lss)) ?_
      clear hF; intro a hF
      refine seq_yl hF (wn_none rfl) rfl rfl (yl_pick (u := _) (v := undef) hF rfl rfl (fun _ => rfl) (fun h => by cases h)) ?_
      clear hF; intro a hF
      refine wpList_nil ?_
      refine then_n ?_
      refine c_cond hF rfl (fun hc871 => ?_) (fun hc871 => ?_)
      · first | (replace hc871 := of_decide_eq_true hc871) | (replace hc871 := of_decide_eq_false (bnot_t hc871)) | (replace hc871 := bnot_t hc871) | skip
        try (have hc871x := hc871; simp only [okS, okI, okW, okP] at hc871x)
        refine wp_skip ?_
        refine then_n ?_
        refine c_seq ?_
        refine wp_block ?_
        refine c_seq ?_
        refine ha_startS hS [3, 0] 16 (by kernel_rfl) ?_; clear hS; intro w hS
        have hSS := hS.sub [3, 0] (by decide) rfl (by simp)
        refine ha_y 1 hF rfl rfl rfl (wn_none rfl) (.inr hSS) (yl_move hF rfl rfl) ?_
        clear hF; intro a hF
        refine ha_y 2 hF rfl rfl rfl (wn_none rfl) (.inr hSS) (yl_move hF rfl rfl) ?_
        clear hF; intro a hF
        have hlt_hx872 : i < (M).length := by first | omega | (simp; done) | (simp; omega)
        obtain ⟨ad873, rfl⟩ := rd_some (hS.rdRo 0 rfl) hlt_hx872
        obtain ⟨x872, hx872⟩ := get_some hlt_hx872
        refine ha_y 3 hF rfl rfl rfl (wn_none rfl) (.inr hSS) (yl_indexAddr hF rfl rfl rfl (fun _ => run_idx' sl22 sz3 (hS.rdRo 0 rfl) hlt_hx872)) ?_
        clear hF; intro a hF
        refine ha_y 5 hF rfl rfl rfl (wn_none rfl) (.inr hSS) (yl_fieldAddr hF rfl rfl (fun w => by kernel_rfl : ∀ w, (Instr.fieldAt 25 (.pointer (some ⟨g869, 0, none⟩)) 1).run Try.prog w = .ok (.pointer (some ⟨g869, 1, none⟩)) w)) ?_
        clear hF; intro a hF
        refine ha_l 0 hF rfl rfl rfl (wn_none rfl) hSS (yl_loadK (rs := [_, _, _]) (fun _ h => h) hF rfl rfl 0 rfl ag25 sz25 rfl rfl) ?_
        clear hF; intro a hF
        refine ha_l 4 hF rfl rfl rfl (wn_none rfl) hSS (yl_loadAt hF rfl rfl ag3 (fun _ h => rd_cell0 (enc := encI) (Sat.rdRo h 1 rfl) encI_len hx872 rfl rfl)) ?_
        clear hF; intro a hF
        refine ha_l 6 hF rfl rfl rfl (wn_none rfl) hSS (yl_load (fun _ h => h) hF rfl rfl 0 rfl ag23 rfl) ?_
        clear hF; intro a hF
        refine ha_y 7 hF rfl rfl rfl (wn_none rfl) (.inr hSS) (yl_len hF rfl rfl (fun _ => run_lenRd sl23 (hS.rdRo 6 rfl))) ?_
        clear hF; intro a hF
        refine ha_all (rs := [8, 13]) (by kernel_rfl) (by simp) ?_
        refine List.forall_mem_cons.2 ⟨?_, List.forall_mem_cons.2 ⟨?_, (fun _ h => by cases h)⟩⟩
        · skip
          have hr874 := rnd_any (x872) (((Le).length : Nat) : Int)
          refine ha_op 8 rfl (wn_none rfl) (wp_call (vs := [_, _]) hF rfl rfl rfl rfl cf12 (round_any (x872) (((Le).length : Nat) : Int) _ (by omega)) ?_)
          clear hF; rintro _ w ⟨rfl, hS1⟩ a hF
          replace hS := hS.callB hS1 rfl; clear hS1
          replace hSS := hS.sub [3, 0] (by decide) rfl (by simp)
          refine ⟨.inr hSS, ?_⟩
          refine ha_all (rs := [9, 13]) (by kernel_rfl) (by simp) ?_
          refine List.forall_mem_cons.2 ⟨?_, List.forall_mem_cons.2 ⟨?_, (fun _ h => by cases h)⟩⟩
          · skip
            refine ha_op 9 rfl (wn_none rfl) (wp_call (vs := [_, _]) hF rfl rfl rfl rfl cf19 (dest_any se _ Le (rm860) ((rnd (x872) (((Le).length : Nat) : Int))) _ (hS.rdRo 6 rfl) (by first | omega | (simp; done)) (by first | omega | (simp; done))) ?_)
            clear hF; rintro _ w ⟨st875, v876, Lq877, rm878, b879, rfl, hq880, hS1⟩ a hF
            replace hS := hS.callB hS1 rfl; clear hS1
            obtain ⟨Av876, cv876, rfl⟩ := hS.form 0 rfl
            have hq880b := destF_bd hq880
            replace hSS := hS.sub [4, 1] (by decide) rfl (by simp)
            refine ⟨.inr hSS, ?_⟩
            refine ha_y 10 hF rfl rfl rfl (wn_none rfl) (.inr hSS) (yl_move hF rfl rfl) ?_
            clear hF; intro a hF
            refine ha_y 11 hF rfl rfl rfl (wn_none rfl) (.inr hSS) (yl_extract hF rfl rfl rfl) ?_
            clear hF; intro a hF
            refine ha_y 12 hF rfl rfl rfl (wn_none rfl) (.inr hSS) (yl_extract hF rfl rfl rfl) ?_
            clear hF; intro a hF
            refine ha_one 13 (by kernel_rfl) rfl (wn_none rfl) (wp_alloc (cs := #[_, _, _]) hF hS rfl rfl rfl zr25 rfl ?_)
            clear hF hS; intro a w g881 hF hS
            replace hSS := hS.sub [5, 2] (by decide) rfl (by simp)
            refine ⟨.inr hSS, ?_⟩
            refine ha_one 14 (by kernel_rfl) rfl (wn_none rfl) (wp_store (cs' := #[_, _, _]) hF hS rfl rfl rfl rfl 0 rfl sz25 (by simp [Value.cells, Value.oneCell']) (by simp [Value.cells]) rfl ?_)
            clear hF hS; intro a w hF hS
            replace hSS := hS.sub [5, 2] (by decide) rfl (by simp)
            refine ⟨.inr hSS, ?_⟩
            refine ha_y 15 hF rfl rfl rfl (wn_none rfl) (.inr hSS) (yl_assign hF rfl rfl) ?_
            clear hF; intro a hF
            refine ha_done (by kernel_rfl) ?_ _
            refine then_n ?_
            refine c_seq ?_
            refine c_region ?_
            refine seq_yl hF (wn_none rfl) rfl rfl (yl_move hF rfl rfl) ?_
            clear hF; intro a hF
            refine wpList_nil ?_
            refine then_n ?_
            refine c_cond hF rfl (fun hc882 => ?_) (fun hc882 => ?_)
            · first | (replace hc882 := of_decide_eq_true hc882) | (replace hc882 := of_decide_eq_false (bnot_t hc882)) | (replace hc882 := bnot_t hc882) | skip
              try (have hc882x := hc882; simp only [okS, okI, okW, okP] at hc882x)
              refine c_region ?_
              have hbt : b879 = true := by assumption
              rw [hbt] at hq880
              have hcd := cur_dest hq880
              obtain ⟨-, -, -, -, hd3, hs3, hr3⟩ := (destF_ok hq880).resolve_right (fun h9 => by cases h9.1)
              subst hr3
              refine seq_yl hF (wn_none rfl) rfl rfl (yl_loadK (rs := [_, _, _]) (fun _ h => h ▸ hS) hF rfl rfl 0 rfl ag25 sz25 rfl rfl) ?_
              clear hF; intro a hF
              refine seq_wp (wn_none rfl) (wp_store (cs' := #[_, _, _]) hF hS rfl rfl rfl rfl 5 rfl sz25 (by simp [Value.cells, Value.oneCell']) (by simp [Value.cells]) rfl ?_)
              clear hF hS; intro a w hF hS
              refine wpList_nil ?_
              refine inb_n ?_
              refine then_n ?_
              refine c_region ?_
              refine seq_yl hF (wn_none rfl) rfl rfl (yl_move hF rfl rfl) ?_
              clear hF; intro a hF
              refine seq_yl hF (wn_none rfl) rfl rfl (yl_bin hF rfl rfl rfl rfl (fun _ => run_inc (by omega))) ?_
              clear hF; intro a hF
              refine seq_yl hF (wn_none rfl) rfl rfl (yl_assign hF rfl rfl) ?_
              clear hF; intro a hF
              refine wpList_nil ?_
              refine then_n ?_
              replace hS := hS.toRo 1 rfl
              exact ⟨_, (by omega), i + 1, st875, Lq877, Av876, cv876, rfl, ⟨by omega, hd3, by omega, hcd.trans hcu⟩, hF.to [1, 5, 6, 7, 8] rfl, (hS.sub [2, 3, 4, 5, 6, 7, 1] (by decide) (by first | rfl | simp) (by simp))⟩
            · first | (replace hc882 := of_decide_eq_false hc882) | (replace hc882 := of_decide_eq_true (bnot_f hc882)) | (replace hc882 := bnot_f hc882) | skip
              try (have hc882x := hc882; simp only [okS, okI, okW, okP] at hc882x)
              refine wp_skip ?_
              refine inb_n ?_
              refine then_n ?_
              refine c_region ?_
              refine seq_yl hF (wn_none rfl) rfl rfl (yl_move hF rfl rfl) ?_
              clear hF; intro a hF
              refine seq_yl hF (wn_none rfl) rfl rfl (yl_bin hF rfl rfl rfl rfl (fun _ => run_inc (by omega))) ?_
              clear hF; intro a hF
              refine seq_yl hF (wn_none rfl) rfl rfl (yl_assign hF rfl rfl) ?_
              clear hF; intro a hF
              refine wpList_nil ?_
              refine then_n ?_
              exact ⟨_, (by omega), i + 1, se, Le, AvB, cvB, rfl, ⟨by omega, hd2, hs2, hcu⟩, hF.to [1, 5, 6, 7, 8] rfl, (hS.sub [2, 3, 4, 5, 6, 7, 8] (by decide) (by first | rfl | simp) (by simp))⟩
          · skip
            refine ha_op 13 rfl (wn_none rfl) (wp_alloc (cs := #[_, _, _]) hF hS rfl rfl rfl zr25 rfl ?_)
            clear hF hS; intro a w g883 hF hS
            replace hSS := hS.sub [4, 1] (by decide) rfl (by simp)
            refine ⟨.inr hSS, ?_⟩
            refine ha_one 9 (by kernel_rfl) rfl (wn_none rfl) (wp_call (vs := [_, _]) hF rfl rfl rfl rfl cf19 (dest_any se _ Le (rm860) ((rnd (x872) (((Le).length : Nat) : Int))) _ (hS.rdRo 7 rfl) (by first | omega | (simp; done)) (by first | omega | (simp; done))) ?_)
            clear hF; rintro _ w ⟨st884, v885, Lq886, rm887, b888, rfl, hq889, hS1⟩ a hF
            replace hS := hS.callB hS1 rfl; clear hS1
            obtain ⟨Av885, cv885, rfl⟩ := hS.form 0 rfl
            have hq889b := destF_bd hq889
            replace hSS := hS.sub [5, 2] (by decide) rfl (by simp)
            refine ⟨.inr hSS, ?_⟩
            refine ha_y 10 hF rfl rfl rfl (wn_none rfl) (.inr hSS) (yl_move hF rfl rfl) ?_
            clear hF; intro a hF
            refine ha_y 11 hF rfl rfl rfl (wn_none rfl) (.inr hSS) (yl_extract hF rfl rfl rfl) ?_
            clear hF; intro a hF
            refine ha_y 12 hF rfl rfl rfl (wn_none rfl) (.inr hSS) (yl_extract hF rfl rfl rfl) ?_
            clear hF; intro a hF
            refine ha_one 14 (by kernel_rfl) rfl (wn_none rfl) (wp_store (cs' := #[_, _, _]) hF hS rfl rfl rfl rfl 1 rfl sz25 (by simp [Value.cells, Value.oneCell']) (by simp [Value.cells]) rfl ?_)
            clear hF hS; intro a w hF hS
            replace hSS := hS.sub [5, 2] (by decide) rfl (by simp)
            refine ⟨.inr hSS, ?_⟩
            refine ha_y 15 hF rfl rfl rfl (wn_none rfl) (.inr hSS) (yl_assign hF rfl rfl) ?_
            clear hF; intro a hF
            refine ha_done (by kernel_rfl) ?_ _
            refine then_n ?_
            refine c_seq ?_
            refine c_region ?_
            refine seq_yl hF (wn_none rfl) rfl rfl (yl_move hF rfl rfl) ?_
            clear hF; intro a hF
            refine wpList_nil ?_
            refine then_n ?_
            refine c_cond hF rfl (fun hc890 => ?_) (fun hc890 => ?_)
            · first | (replace hc890 := of_decide_eq_true hc890) | (replace hc890 := of_decide_eq_false (bnot_t hc890)) | (replace hc890 := bnot_t hc890) | skip
              try (have hc890x := hc890; simp only [okS, okI, okW, okP] at hc890x)
              refine c_region ?_
              have hbt : b888 = true := by assumption
              rw [hbt] at hq889
              have hcd := cur_dest hq889
              obtain ⟨-, -, -, -, hd3, hs3, hr3⟩ := (destF_ok hq889).resolve_right (fun h9 => by cases h9.1)
              subst hr3
              refine seq_yl hF (wn_none rfl) rfl rfl (yl_loadK (rs := [_, _, _]) (fun _ h => h ▸ hS) hF rfl rfl 1 rfl ag25 sz25 rfl rfl) ?_
              clear hF; intro a hF
              refine seq_wp (wn_none rfl) (wp_store (cs' := #[_, _, _]) hF hS rfl rfl rfl rfl 5 rfl sz25 (by simp [Value.cells, Value.oneCell']) (by simp [Value.cells]) rfl ?_)
              clear hF hS; intro a w hF hS
              refine wpList_nil ?_
              refine inb_n ?_
              refine then_n ?_
              refine c_region ?_
              refine seq_yl hF (wn_none rfl) rfl rfl (yl_move hF rfl rfl) ?_
              clear hF; intro a hF
              refine seq_yl hF (wn_none rfl) rfl rfl (yl_bin hF rfl rfl rfl rfl (fun _ => run_inc (by omega))) ?_
              clear hF; intro a hF
              refine seq_yl hF (wn_none rfl) rfl rfl (yl_assign hF rfl rfl) ?_
              clear hF; intro a hF
              refine wpList_nil ?_
              refine then_n ?_
              replace hS := hS.toRo 0 rfl
              exact ⟨_, (by omega), i + 1, st884, Lq886, Av885, cv885, rfl, ⟨by omega, hd3, by omega, hcd.trans hcu⟩, hF.to [1, 5, 6, 7, 8] rfl, (hS.sub [2, 3, 4, 5, 6, 7, 0] (by decide) (by first | rfl | simp) (by simp))⟩
            · first | (replace hc890 := of_decide_eq_false hc890) | (replace hc890 := of_decide_eq_true (bnot_f hc890)) | (replace hc890 := bnot_f hc890) | skip
              try (have hc890x := hc890; simp only [okS, okI, okW, okP] at hc890x)
              refine wp_skip ?_
              refine inb_n ?_
              refine then_n ?_
              refine c_region ?_
              refine seq_yl hF (wn_none rfl) rfl rfl (yl_move hF rfl rfl) ?_
              clear hF; intro a hF
              refine seq_yl hF (wn_none rfl) rfl rfl (yl_bin hF rfl rfl rfl rfl (fun _ => run_inc (by omega))) ?_
              clear hF; intro a hF
              refine seq_yl hF (wn_none rfl) rfl rfl (yl_assign hF rfl rfl) ?_
              clear hF; intro a hF
              refine wpList_nil ?_
              refine then_n ?_
              exact ⟨_, (by omega), i + 1, se, Le, AvB, cvB, rfl, ⟨by omega, hd2, hs2, hcu⟩, hF.to [1, 5, 6, 7, 8] rfl, (hS.sub [2, 3, 4, 5, 6, 7, 8] (by decide) (by first | rfl | simp) (by simp))⟩
        · skip
          refine ha_op 13 rfl (wn_none rfl) (wp_alloc (cs := #[_, _, _]) hF hS rfl rfl rfl zr25 rfl ?_)
          clear hF hS; intro a w g891 hF hS
          replace hSS := hS.sub [4, 1] (by decide) rfl (by simp)
          refine ⟨.inr hSS, ?_⟩
          have hr892 := rnd_any (x872) (((Le).length : Nat) : Int)
          refine ha_one 8 (by kernel_rfl) rfl (wn_none rfl) (wp_call (vs := [_, _]) hF rfl rfl rfl rfl cf12 (round_any (x872) (((Le).length : Nat) : Int) _ (by omega)) ?_)
          clear hF; rintro _ w ⟨rfl, hS1⟩ a hF
          replace hS := hS.callB hS1 rfl; clear hS1
          replace hSS := hS.sub [4, 1] (by decide) rfl (by simp)
          refine ⟨.inr hSS, ?_⟩
          refine ha_one 9 (by kernel_rfl) rfl (wn_none rfl) (wp_call (vs := [_, _]) hF rfl rfl rfl rfl cf19 (dest_any se _ Le (rm860) ((rnd (x872) (((Le).length : Nat) : Int))) _ (hS.rdRo 7 rfl) (by first | omega | (simp; done)) (by first | omega | (simp; done))) ?_)
          clear hF; rintro _ w ⟨st893, v894, Lq895, rm896, b897, rfl, hq898, hS1⟩ a hF
          replace hS := hS.callB hS1 rfl; clear hS1
          obtain ⟨Av894, cv894, rfl⟩ := hS.form 0 rfl
          have hq898b := destF_bd hq898
          replace hSS := hS.sub [5, 2] (by decide) rfl (by simp)
          refine ⟨.inr hSS, ?_⟩
          refine ha_y 10 hF rfl rfl rfl (wn_none rfl) (.inr hSS) (yl_move hF rfl rfl) ?_
          clear hF; intro a hF
          refine ha_y 11 hF rfl rfl rfl (wn_none rfl) (.inr hSS) (yl_extract hF rfl rfl rfl) ?_
          clear hF; intro a hF
          refine ha_y 12 hF rfl rfl rfl (wn_none rfl) (.inr hSS) (yl_extract hF rfl rfl rfl) ?_
          clear hF; intro a hF
          refine ha_one 14 (by kernel_rfl) rfl (wn_none rfl) (wp_store (cs' := #[_, _, _]) hF hS rfl rfl rfl rfl 1 rfl sz25 (by simp [Value.cells, Value.oneCell']) (by simp [Value.cells]) rfl ?_)
          clear hF hS; intro a w hF hS
          replace hSS := hS.sub [5, 2] (by decide) rfl (by simp)
          refine ⟨.inr hSS, ?_⟩
          refine ha_y 15 hF rfl rfl rfl (wn_none rfl) (.inr hSS) (yl_assign hF rfl rfl) ?_
          clear hF; intro a hF
          refine ha_done (by kernel_rfl) ?_ _
          refine then_n ?_
          refine c_seq ?_
          refine c_region ?_
          refine seq_yl hF (wn_none rfl) rfl rfl (yl_move hF rfl rfl) ?_
          clear hF; intro a hF
          refine wpList_nil ?_
          refine then_n ?_
          refine c_cond hF rfl (fun hc899 => ?_) (fun hc899 => ?_)
          · first | (replace hc899 := of_decide_eq_true hc899) | (replace hc899 := of_decide_eq_false (bnot_t hc899)) | (replace hc899 := bnot_t hc899) | skip
            try (have hc899x := hc899; simp only [okS, okI, okW, okP] at hc899x)
            refine c_region ?_
            have hbt : b897 = true := by assumption
            rw [hbt] at hq898
            have hcd := cur_dest hq898
            obtain ⟨-, -, -, -, hd3, hs3, hr3⟩ := (destF_ok hq898).resolve_right (fun h9 => by cases h9.1)
            subst hr3
            refine seq_yl hF (wn_none rfl) rfl rfl (yl_loadK (rs := [_, _, _]) (fun _ h => h ▸ hS) hF rfl rfl 1 rfl ag25 sz25 rfl rfl) ?_
            clear hF; intro a hF
            refine seq_wp (wn_none rfl) (wp_store (cs' := #[_, _, _]) hF hS rfl rfl rfl rfl 5 rfl sz25 (by simp [Value.cells, Value.oneCell']) (by simp [Value.cells]) rfl ?_)
            clear hF hS; intro a w hF hS
            refine wpList_nil ?_
            refine inb_n ?_
            refine then_n ?_
            refine c_region ?_
            refine seq_yl hF (wn_none rfl) rfl rfl (yl_move hF rfl rfl) ?_
            clear hF; intro a hF
            refine seq_yl hF (wn_none rfl) rfl rfl (yl_bin hF rfl rfl rfl rfl (fun _ => run_inc (by omega))) ?_
            clear hF; intro a hF
            refine seq_yl hF (wn_none rfl) rfl rfl (yl_assign hF rfl rfl) ?_
            clear hF; intro a hF
            refine wpList_nil ?_
            refine then_n ?_
            replace hS := hS.toRo 0 rfl
            exact ⟨_, (by omega), i + 1, st893, Lq895, Av894, cv894, rfl, ⟨by omega, hd3, by omega, hcd.trans hcu⟩, hF.to [1, 5, 6, 7, 8] rfl, (hS.sub [2, 3, 4, 5, 6, 7, 0] (by decide) (by first | rfl | simp) (by simp))⟩
          · first | (replace hc899 := of_decide_eq_false hc899) | (replace hc899 := of_decide_eq_true (bnot_f hc899)) | (replace hc899 := bnot_f hc899) | skip
            try (have hc899x := hc899; simp only [okS, okI, okW, okP] at hc899x)
            refine wp_skip ?_
            refine inb_n ?_
            refine then_n ?_
            refine c_region ?_
            refine seq_yl hF (wn_none rfl) rfl rfl (yl_move hF rfl rfl) ?_
            clear hF; intro a hF
            refine seq_yl hF (wn_none rfl) rfl rfl (yl_bin hF rfl rfl rfl rfl (fun _ => run_inc (by omega))) ?_
            clear hF; intro a hF
            refine seq_yl hF (wn_none rfl) rfl rfl (yl_assign hF rfl rfl) ?_
            clear hF; intro a hF
            refine wpList_nil ?_
            refine then_n ?_
            exact ⟨_, (by omega), i + 1, se, Le, AvB, cvB, rfl, ⟨by omega, hd2, hs2, hcu⟩, hF.to [1, 5, 6, 7, 8] rfl, (hS.sub [2, 3, 4, 5, 6, 7, 8] (by decide) (by first | rfl | simp) (by simp))⟩
      · first | (replace hc871 := of_decide_eq_false hc871) | (replace hc871 := of_decide_eq_true (bnot_f hc871)) | (replace hc871 := bnot_f hc871) | skip
        try (have hc871x := hc871; simp only [okS, okI, okW, okP] at hc871x)
        refine wp_exit ?_
        refine then_x ?_
        refine then_x ?_
        refine inb_x ?_
        refine then_n ?_
        refine c_seq ?_
        refine ha_startS hS [1] 9 (by kernel_rfl) ?_; clear hS; intro w hS
        have hSS := hS.sub [1] (by decide) rfl (by simp)
        have hr1 := read_all (c := (((st857).size : Int) / 8)) hd861d rfl (by omega)
        refine ha_l 0 hF rfl rfl rfl (wn_none rfl) hSS (yl_loadK (rs := [_, _, _]) (fun _ h => h) hF rfl rfl 0 rfl ag25 sz25 rfl rfl) ?_
        clear hF; intro a hF
        refine ha_l 1 hF rfl rfl rfl (wn_none rfl) hSS (yl_loadK (rs := [_, _, _]) (fun _ h => h) hF rfl rfl 0 rfl ag25 sz25 rfl rfl) ?_
        clear hF; intro a hF
        refine ha_one 2 (by kernel_rfl) rfl (wn_none rfl) (wp_call (vs := [_]) hF rfl rfl rfl rfl cf13 (secs_any st857 _ _ _ (by omega)) ?_)
        clear hF; rintro _ w ⟨rfl, hS1⟩ a hF
        replace hS := hS.callB hS1 rfl; clear hS1
        replace hSS := hS.sub [1] (by decide) rfl (by simp)
        refine ⟨.inr hSS, ?_⟩
        refine ha_one 3 (by kernel_rfl) rfl (wn_none rfl) (wp_call (vs := [_, _, _]) hF rfl rfl rfl rfl cf20 (read_any st857 _ Lq859 (rm860) (0 : Int) ((((st857).size : Int) / 8)) _ (hS.rdRo 4 rfl) (by first | omega | (simp; done)) (by first | omega | (simp; done))) ?_)
        clear hF; rintro _ w ⟨rfl, hS1⟩ a hF
        replace hS := hS.callB hS1 rfl; clear hS1
        have hz900 := readF_bd st857 Lq859 (rm860) (0 : Int) ((((st857).size : Int) / 8))
        replace hSS := hS.sub [1] (by decide) rfl (by simp)
        refine ⟨.inr hSS, ?_⟩
        refine ha_y 4 hF rfl rfl rfl (wn_none rfl) (.inr hSS) (yl_move hF rfl rfl) ?_
        clear hF; intro a hF
        refine ha_y 5 hF rfl rfl rfl (wn_none rfl) (.inr hSS) (yl_extract hF rfl rfl rfl) ?_
        clear hF; intro a hF
        refine ha_y 6 hF rfl rfl rfl (wn_none rfl) (.inr hSS) (yl_extract hF rfl rfl rfl) ?_
        clear hF; intro a hF
        replace hF := fr_set (b' := true) hF (by rw [hr1])
        refine ha_y 7 hF rfl rfl rfl (wn_none rfl) (.inr hSS) (yl_assign hF rfl rfl) ?_
        clear hF; intro a hF
        refine ha_y 8 hF rfl rfl rfl (wn_none rfl) (.inr hSS) (yl_assign hF rfl rfl) ?_
        clear hF; intro a hF
        refine ha_done (by kernel_rfl) ?_ _
        refine then_n ?_
        refine c_seq ?_
        refine ha_startS hS [2, 1, 3] 36 (by kernel_rfl) ?_; clear hS; intro w hS
        have hSS := hS.sub [2, 1, 3] (by decide) rfl (by simp)
        refine ha_y 0 hF rfl rfl rfl (wn_none rfl) (.inr hSS) (yl_move hF rfl rfl) ?_
        clear hF; intro a hF
        refine ha_y 1 hF rfl rfl rfl (wn_none rfl) (.inr hSS) (yl_move hF rfl rfl) ?_
        clear hF; intro a hF
        refine ha_y 2 hF rfl rfl rfl (wn_t hF rfl rfl rfl rfl) (.inr hSS) (yl_fieldAddr hF rfl rfl (fun w => by kernel_rfl : ∀ w, (Instr.fieldAt 25 (.pointer (some ⟨g868, 0, none⟩)) 1).run Try.prog w = .ok (.pointer (some ⟨g868, 1, none⟩)) w)) ?_
        clear hF; intro a hF
        refine ha_l 3 hF rfl rfl rfl (wn_t hF rfl rfl rfl rfl) hSS (yl_load (fun _ h => h) hF rfl rfl 0 rfl ag23 rfl) ?_
        clear hF; intro a hF
        refine ha_y 4 hF rfl rfl rfl (wn_t hF rfl rfl rfl rfl) (.inr hSS) (yl_len hF rfl rfl (fun _ => run_lenRd sl23 (hS.rdRo 5 rfl))) ?_
        clear hF; intro a hF
        refine ha_y 5 hF rfl rfl rfl (wn_t hF rfl rfl rfl rfl) (.inr hSS) (yl_bin hF rfl rfl rfl rfl (fun _ => run_eql)) ?_
        clear hF; intro a hF
        replace hF := fr_set (b' := true) hF (by simp)
        refine ha_y 6 hF rfl rfl rfl (wn_none rfl) (.inr hSS) (yl_pick (u := _) (v := undef) hF rfl rfl (fun _ => rfl) (fun h => by cases h)) ?_
        clear hF; intro a hF
        refine ha_y 7 hF rfl rfl rfl (wn_none rfl) (.inr hSS) (yl_move hF rfl rfl) ?_
        clear hF; intro a hF
        refine ha_y 8 hF rfl rfl rfl (wn_t hF rfl rfl rfl rfl) (.inr hSS) (yl_fieldAddr hF rfl rfl (fun w => by kernel_rfl : ∀ w, (Instr.fieldAt 25 (.pointer (some ⟨g868, 0, none⟩)) 0).run Try.prog w = .ok (.pointer (some ⟨g868, 0, none⟩)) w)) ?_
        clear hF; intro a hF
        refine ha_y 10 hF rfl rfl rfl (wn_t hF rfl rfl rfl rfl) (.inr hSS) (yl_move hF rfl rfl) ?_
        clear hF; intro a hF
        refine ha_l 9 hF rfl rfl rfl (wn_t hF rfl rfl rfl rfl) hSS (yl_load (fun _ h => h) hF rfl rfl 0 rfl ag9 rfl) ?_
        clear hF; intro a hF
        refine ha_y 11 hF rfl rfl rfl (wn_t hF rfl rfl rfl rfl) (.inr hSS) (yl_bin hF rfl rfl rfl rfl (fun _ => run_str_eql)) ?_
        clear hF; intro a hF
        replace hF := fr_set (b' := true) hF (by rw [decide_eq_true_eq, hr1])
        refine ha_y 12 hF rfl rfl rfl (wn_none rfl) (.inr hSS) (yl_pick (u := _) (v := undef) hF rfl rfl (fun _ => rfl) (fun h => by cases h)) ?_
        clear hF; intro a hF
        refine ha_y 13 hF rfl rfl rfl (wn_none rfl) (.inr hSS) (yl_move hF rfl rfl) ?_
        clear hF; intro a hF
        refine ha_y 14 hF rfl rfl rfl (wn_t hF rfl rfl rfl rfl) (.inr hSS) (yl_fieldAddr hF rfl rfl (fun w => by kernel_rfl : ∀ w, (Instr.fieldAt 25 (.pointer (some ⟨g868, 0, none⟩)) 2).run Try.prog w = .ok (.pointer (some ⟨g868, 2, none⟩)) w)) ?_
        clear hF; intro a hF
        refine ha_y 16 hF rfl rfl rfl (wn_t hF rfl rfl rfl rfl) (.inr hSS) (yl_fieldAddr hF rfl rfl (fun w => by kernel_rfl : ∀ w, (Instr.fieldAt 25 (.pointer (some ⟨g862, 0, none⟩)) 2).run Try.prog w = .ok (.pointer (some ⟨g862, 2, none⟩)) w)) ?_
        clear hF; intro a hF
        refine ha_l 15 hF rfl rfl rfl (wn_t hF rfl rfl rfl rfl) hSS (yl_load (fun _ h => h) hF rfl rfl 0 rfl ag3 rfl) ?_
        clear hF; intro a hF
        refine ha_l 17 hF rfl rfl rfl (wn_t hF rfl rfl rfl rfl) hSS (yl_load (fun _ h => h) hF rfl rfl 1 rfl ag3 rfl) ?_
        clear hF; intro a hF
        refine ha_y 18 hF rfl rfl rfl (wn_t hF rfl rfl rfl rfl) (.inr hSS) (yl_bin hF rfl rfl rfl rfl (fun _ => run_eql)) ?_
        clear hF; intro a hF
        replace hF := fr_set (b' := true) hF (by simp)
        refine ha_y 19 hF rfl rfl rfl (wn_none rfl) (.inr hSS) (yl_pick (u := _) (v := undef) hF rfl rfl (fun _ => rfl) (fun h => by cases h)) ?_
        clear hF; intro a hF
        refine ha_y 20 hF rfl rfl rfl (wn_none rfl) (.inr hSS) (yl_move hF rfl rfl) ?_
        clear hF; intro a hF
        refine ha_l 21 hF rfl rfl rfl (wn_t hF rfl rfl rfl rfl) hSS (yl_loadK (rs := [_, _, _]) (fun _ h => h) hF rfl rfl 2 rfl ag25 sz25 rfl rfl) ?_
        clear hF; intro a hF
        refine ha_l 23 hF rfl rfl rfl (wn_t hF rfl rfl rfl rfl) hSS (yl_loadK (rs := [_, _, _]) (fun _ h => h) hF rfl rfl 0 rfl ag25 sz25 rfl rfl) ?_
        clear hF; intro a hF
        refine ha_one 22 (by kernel_rfl) rfl (wn_t hF rfl rfl rfl rfl) (wp_call (vs := [_]) hF rfl rfl rfl rfl cf21 (flush_any se _ Le (rm860) _ (hS.rdRo 6 rfl) (by first | omega | (simp; done)) (by first | omega | (simp; done))) ?_)
        clear hF; rintro _ w ⟨st901, rm902, v903, rfl, hq904, hE905, hS1⟩ a hF
        replace hS := hS.callB hS1 rfl; clear hS1
        have hq904b := flushF_bd hq904; replace hS := hS.addRo (hE905.rd enc39 2 _); obtain ⟨Av903, cv903, rfl⟩ := (hE905.rd enc39 2 w).form
        replace hSS := hS.sub [3, 2, 4] (by decide) rfl (by simp)
        refine ⟨.inr hSS, ?_⟩
        refine ha_one 24 (by kernel_rfl) rfl (wn_t hF rfl rfl rfl rfl) (wp_call (vs := [_, _]) hF rfl rfl rfl rfl cf28 (sameD_any st901 _ ([] : List E39) (rm902) (flSt st857 Lq859) _ ([] : List E39) (rm860) _ (hS.rdRo 0 rfl) (hS.rdRo 6 rfl) (by first | omega | (simp; done)) (by first | omega | (simp; done))) ?_)
        clear hF; rintro _ w ⟨rfl, hS1⟩ a hF
        replace hS := hS.callB hS1 rfl; clear hS1
        replace hSS := hS.sub [3, 2, 4] (by decide) rfl (by simp)
        refine ⟨.inr hSS, ?_⟩
        replace hF := fr_set (b' := true) hF (by rw [decide_eq_true_eq]; exact ⟨(flushF_eq hd2 hq904).1.trans hcu, (flushF_eq hd2 hq904).2.symm, rfl⟩)
        refine ha_y 25 hF rfl rfl rfl (wn_none rfl) (.inr hSS) (yl_pick (u := _) (v := undef) hF rfl rfl (fun _ => rfl) (fun h => by cases h)) ?_
        clear hF; intro a hF
        refine ha_y 26 hF rfl rfl rfl (wn_none rfl) (.inr hSS) (yl_move hF rfl rfl) ?_
        clear hF; intro a hF
        refine ha_l 27 hF rfl rfl rfl (wn_t hF rfl rfl rfl rfl) hSS (yl_loadK (rs := [_, _, _]) (fun _ h => h) hF rfl rfl 0 rfl ag25 sz25 rfl rfl) ?_
        clear hF; intro a hF
        refine ha_l 29 hF rfl rfl rfl (wn_t hF rfl rfl rfl rfl) hSS (yl_loadK (rs := [_, _, _]) (fun _ h => h) hF rfl rfl 0 rfl ag25 sz25 rfl rfl) ?_
        clear hF; intro a hF
        refine ha_one 28 (by kernel_rfl) rfl (wn_t hF rfl rfl rfl rfl) (wp_call (vs := [_]) hF rfl rfl rfl rfl cf21 (flush_any (flSt st857 Lq859) _ ([] : List E39) (rm860) _ (hS.rdRo 6 rfl) (by first | omega | (simp; done)) (by first | omega | (simp; done))) ?_)
        clear hF; rintro _ w ⟨st906, rm907, v908, rfl, hq909, hE910, hS1⟩ a hF
        replace hS := hS.callB hS1 rfl; clear hS1
        have hq909b := flushF_bd hq909; replace hS := hS.addRo (hE910.rd enc39 2 _); obtain ⟨Av908, cv908, rfl⟩ := (hE910.rd enc39 2 w).form
        replace hSS := hS.sub [4, 3, 5] (by decide) rfl (by simp)
        refine ⟨.inr hSS, ?_⟩
        refine ha_one 30 (by kernel_rfl) rfl (wn_t hF rfl rfl rfl rfl) (wp_call (vs := [_, _]) hF rfl rfl rfl rfl cf28 (sameD_any st906 _ ([] : List E39) (rm907) (flSt st857 Lq859) _ ([] : List E39) (rm860) _ (hS.rdRo 0 rfl) (hS.rdRo 7 rfl) (by first | omega | (simp; done)) (by first | omega | (simp; done))) ?_)
        clear hF; rintro _ w ⟨rfl, hS1⟩ a hF
        replace hS := hS.callB hS1 rfl; clear hS1
        replace hSS := hS.sub [4, 3, 5] (by decide) rfl (by simp)
        refine ⟨.inr hSS, ?_⟩
        replace hF := fr_set (b' := true) hF (by rw [decide_eq_true_eq]; exact ⟨(flushF_eq (okD_fl hd861d) hq909).1, (flushF_eq (okD_fl hd861d) hq909).2.symm, rfl⟩)
        refine ha_y 31 hF rfl rfl rfl (wn_none rfl) (.inr hSS) (yl_pick (u := _) (v := undef) hF rfl rfl (fun _ => rfl) (fun h => by cases h)) ?_
        clear hF; intro a hF
        refine ha_y 32 hF rfl rfl rfl (wn_none rfl) (.inr hSS) (yl_move hF rfl rfl) ?_
        clear hF; intro a hF
        refine ha_one 33 (by kernel_rfl) rfl (wn_t hF rfl rfl rfl rfl) (wp_call (vs := []) hF rfl rfl rfl rfl cf18 (awake_any _) ?_)
        clear hF; rintro _ w ⟨rfl, hS1⟩ a hF
        replace hS := hS.callB hS1 rfl; clear hS1
        replace hSS := hS.sub [4, 3, 5] (by decide) rfl (by simp)
        refine ⟨.inr hSS, ?_⟩
        refine ha_y 34 hF rfl rfl rfl (wn_none rfl) (.inr hSS) (yl_pick (u := _) (v := undef) hF rfl rfl (fun _ => rfl) (fun h => by cases h)) ?_
        clear hF; intro a hF
        refine ha_y 35 hF rfl rfl rfl (wn_none rfl) (.inr hSS) (yl_assign hF rfl rfl) ?_
        clear hF; intro a hF
        refine ha_done (by kernel_rfl) ?_ _
        refine then_n ?_
        refine wp_ret ?_
        refine ret_t hF rfl rfl ?_
        exact ⟨_, rfl, rfl, (hS.sub [] (by decide) (by first | rfl | simp) (by simp))⟩
    · first | (replace hc870 := of_decide_eq_false hc870) | (replace hc870 := of_decide_eq_true (bnot_f hc870)) | (replace hc870 := bnot_f hc870) | skip
      try (have hc870x := hc870; simp only [okS, okI, okW, okP] at hc870x)
      refine seq_skip hF (wn_f hF rfl rfl rfl rfl) rfl rfl ?_
      clear hF; intro a hF
      refine seq_skip hF (wn_f hF rfl rfl rfl rfl) rfl rfl ?_
      clear hF; intro a hF
      refine seq_yl hF (wn_none rfl) rfl rfl (yl_pick (u := _) (v := undef) hF rfl rfl (fun h => by cases h) (fun _ => rfl)) ?_
      clear hF; intro a hF
      refine wpList_nil ?_
      refine then_n ?_
      refine c_cond_f hF rfl ?_
      refine wp_exit ?_
      refine then_x ?_
      refine then_x ?_
      refine inb_x ?_
      refine then_n ?_
      refine c_seq ?_
      refine ha_startS hS [1] 9 (by kernel_rfl) ?_; clear hS; intro w hS
      have hSS := hS.sub [1] (by decide) rfl (by simp)
      have hr1 := read_all (c := (((st857).size : Int) / 8)) hd861d rfl (by omega)
      refine ha_l 0 hF rfl rfl rfl (wn_none rfl) hSS (yl_loadK (rs := [_, _, _]) (fun _ h => h) hF rfl rfl 0 rfl ag25 sz25 rfl rfl) ?_
      clear hF; intro a hF
      refine ha_l 1 hF rfl rfl rfl (wn_none rfl) hSS (yl_loadK (rs := [_, _, _]) (fun _ h => h) hF rfl rfl 0 rfl ag25 sz25 rfl rfl) ?_
      clear hF; intro a hF
      refine ha_one 2 (by kernel_rfl) rfl (wn_none rfl) (wp_call (vs := [_]) hF rfl rfl rfl rfl cf13 (secs_any st857 _ _ _ (by omega)) ?_)
      clear hF; rintro _ w ⟨rfl, hS1⟩ a hF
      replace hS := hS.callB hS1 rfl; clear hS1
      replace hSS := hS.sub [1] (by decide) rfl (by simp)
      refine ⟨.inr hSS, ?_⟩
      refine ha_one 3 (by kernel_rfl) rfl (wn_none rfl) (wp_call (vs := [_, _, _]) hF rfl rfl rfl rfl cf20 (read_any st857 _ Lq859 (rm860) (0 : Int) ((((st857).size : Int) / 8)) _ (hS.rdRo 4 rfl) (by first | omega | (simp; done)) (by first | omega | (simp; done))) ?_)
      clear hF; rintro _ w ⟨rfl, hS1⟩ a hF
      replace hS := hS.callB hS1 rfl; clear hS1
      have hz911 := readF_bd st857 Lq859 (rm860) (0 : Int) ((((st857).size : Int) / 8))
      replace hSS := hS.sub [1] (by decide) rfl (by simp)
      refine ⟨.inr hSS, ?_⟩
      refine ha_y 4 hF rfl rfl rfl (wn_none rfl) (.inr hSS) (yl_move hF rfl rfl) ?_
      clear hF; intro a hF
      refine ha_y 5 hF rfl rfl rfl (wn_none rfl) (.inr hSS) (yl_extract hF rfl rfl rfl) ?_
      clear hF; intro a hF
      refine ha_y 6 hF rfl rfl rfl (wn_none rfl) (.inr hSS) (yl_extract hF rfl rfl rfl) ?_
      clear hF; intro a hF
      replace hF := fr_set (b' := true) hF (by rw [hr1])
      refine ha_y 7 hF rfl rfl rfl (wn_none rfl) (.inr hSS) (yl_assign hF rfl rfl) ?_
      clear hF; intro a hF
      refine ha_y 8 hF rfl rfl rfl (wn_none rfl) (.inr hSS) (yl_assign hF rfl rfl) ?_
      clear hF; intro a hF
      refine ha_done (by kernel_rfl) ?_ _
      refine then_n ?_
      refine c_seq ?_
      refine ha_startS hS [2, 1, 3] 36 (by kernel_rfl) ?_; clear hS; intro w hS
      have hSS := hS.sub [2, 1, 3] (by decide) rfl (by simp)
      refine ha_y 0 hF rfl rfl rfl (wn_none rfl) (.inr hSS) (yl_move hF rfl rfl) ?_
      clear hF; intro a hF
      refine ha_y 1 hF rfl rfl rfl (wn_none rfl) (.inr hSS) (yl_move hF rfl rfl) ?_
      clear hF; intro a hF
      refine ha_y 2 hF rfl rfl rfl (wn_t hF rfl rfl rfl rfl) (.inr hSS) (yl_fieldAddr hF rfl rfl (fun w => by kernel_rfl : ∀ w, (Instr.fieldAt 25 (.pointer (some ⟨g868, 0, none⟩)) 1).run Try.prog w = .ok (.pointer (some ⟨g868, 1, none⟩)) w)) ?_
      clear hF; intro a hF
      refine ha_l 3 hF rfl rfl rfl (wn_t hF rfl rfl rfl rfl) hSS (yl_load (fun _ h => h) hF rfl rfl 0 rfl ag23 rfl) ?_
      clear hF; intro a hF
      refine ha_y 4 hF rfl rfl rfl (wn_t hF rfl rfl rfl rfl) (.inr hSS) (yl_len hF rfl rfl (fun _ => run_lenRd sl23 (hS.rdRo 5 rfl))) ?_
      clear hF; intro a hF
      refine ha_y 5 hF rfl rfl rfl (wn_t hF rfl rfl rfl rfl) (.inr hSS) (yl_bin hF rfl rfl rfl rfl (fun _ => run_eql)) ?_
      clear hF; intro a hF
      replace hF := fr_set (b' := true) hF (by simp)
      refine ha_y 6 hF rfl rfl rfl (wn_none rfl) (.inr hSS) (yl_pick (u := _) (v := undef) hF rfl rfl (fun _ => rfl) (fun h => by cases h)) ?_
      clear hF; intro a hF
      refine ha_y 7 hF rfl rfl rfl (wn_none rfl) (.inr hSS) (yl_move hF rfl rfl) ?_
      clear hF; intro a hF
      refine ha_y 8 hF rfl rfl rfl (wn_t hF rfl rfl rfl rfl) (.inr hSS) (yl_fieldAddr hF rfl rfl (fun w => by kernel_rfl : ∀ w, (Instr.fieldAt 25 (.pointer (some ⟨g868, 0, none⟩)) 0).run Try.prog w = .ok (.pointer (some ⟨g868, 0, none⟩)) w)) ?_
      clear hF; intro a hF
      refine ha_y 10 hF rfl rfl rfl (wn_t hF rfl rfl rfl rfl) (.inr hSS) (yl_move hF rfl rfl) ?_
      clear hF; intro a hF
      refine ha_l 9 hF rfl rfl rfl (wn_t hF rfl rfl rfl rfl) hSS (yl_load (fun _ h => h) hF rfl rfl 0 rfl ag9 rfl) ?_
      clear hF; intro a hF
      refine ha_y 11 hF rfl rfl rfl (wn_t hF rfl rfl rfl rfl) (.inr hSS) (yl_bin hF rfl rfl rfl rfl (fun _ => run_str_eql)) ?_
      clear hF; intro a hF
      replace hF := fr_set (b' := true) hF (by rw [decide_eq_true_eq, hr1])
      refine ha_y 12 hF rfl rfl rfl (wn_none rfl) (.inr hSS) (yl_pick (u := _) (v := undef) hF rfl rfl (fun _ => rfl) (fun h => by cases h)) ?_
      clear hF; intro a hF
      refine ha_y 13 hF rfl rfl rfl (wn_none rfl) (.inr hSS) (yl_move hF rfl rfl) ?_
      clear hF; intro a hF
      refine ha_y 14 hF rfl rfl rfl (wn_t hF rfl rfl rfl rfl) (.inr hSS) (yl_fieldAddr hF rfl rfl (fun w => by kernel_rfl : ∀ w, (Instr.fieldAt 25 (.pointer (some ⟨g868, 0, none⟩)) 2).run Try.prog w = .ok (.pointer (some ⟨g868, 2, none⟩)) w)) ?_
      clear hF; intro a hF
      refine ha_y 16 hF rfl rfl rfl (wn_t hF rfl rfl rfl rfl) (.inr hSS) (yl_fieldAddr hF rfl rfl (fun w => by kernel_rfl : ∀ w, (Instr.fieldAt 25 (.pointer (some ⟨g862, 0, none⟩)) 2).run Try.prog w = .ok (.pointer (some ⟨g862, 2, none⟩)) w)) ?_
      clear hF; intro a hF
      refine ha_l 15 hF rfl rfl rfl (wn_t hF rfl rfl rfl rfl) hSS (yl_load (fun _ h => h) hF rfl rfl 0 rfl ag3 rfl) ?_
      clear hF; intro a hF
      refine ha_l 17 hF rfl rfl rfl (wn_t hF rfl rfl rfl rfl) hSS (yl_load (fun _ h => h) hF rfl rfl 1 rfl ag3 rfl) ?_
      clear hF; intro a hF
      refine ha_y 18 hF rfl rfl rfl (wn_t hF rfl rfl rfl rfl) (.inr hSS) (yl_bin hF rfl rfl rfl rfl (fun _ => run_eql)) ?_
      clear hF; intro a hF
      replace hF := fr_set (b' := true) hF (by simp)
      refine ha_y 19 hF rfl rfl rfl (wn_none rfl) (.inr hSS) (yl_pick (u := _) (v := undef) hF rfl rfl (fun _ => rfl) (fun h => by cases h)) ?_
      clear hF; intro a hF
      refine ha_y 20 hF rfl rfl rfl (wn_none rfl) (.inr hSS) (yl_move hF rfl rfl) ?_
      clear hF; intro a hF
      refine ha_l 21 hF rfl rfl rfl (wn_t hF rfl rfl rfl rfl) hSS (yl_loadK (rs := [_, _, _]) (fun _ h => h) hF rfl rfl 2 rfl ag25 sz25 rfl rfl) ?_
      clear hF; intro a hF
      refine ha_l 23 hF rfl rfl rfl (wn_t hF rfl rfl rfl rfl) hSS (yl_loadK (rs := [_, _, _]) (fun _ h => h) hF rfl rfl 0 rfl ag25 sz25 rfl rfl) ?_
      clear hF; intro a hF
      refine ha_one 22 (by kernel_rfl) rfl (wn_t hF rfl rfl rfl rfl) (wp_call (vs := [_]) hF rfl rfl rfl rfl cf21 (flush_any se _ Le (rm860) _ (hS.rdRo 6 rfl) (by first | omega | (simp; done)) (by first | omega | (simp; done))) ?_)
      clear hF; rintro _ w ⟨st912, rm913, v914, rfl, hq915, hE916, hS1⟩ a hF
      replace hS := hS.callB hS1 rfl; clear hS1
      have hq915b := flushF_bd hq915; replace hS := hS.addRo (hE916.rd enc39 2 _); obtain ⟨Av914, cv914, rfl⟩ := (hE916.rd enc39 2 w).form
      replace hSS := hS.sub [3, 2, 4] (by decide) rfl (by simp)
      refine ⟨.inr hSS, ?_⟩
      refine ha_one 24 (by kernel_rfl) rfl (wn_t hF rfl rfl rfl rfl) (wp_call (vs := [_, _]) hF rfl rfl rfl rfl cf28 (sameD_any st912 _ ([] : List E39) (rm913) (flSt st857 Lq859) _ ([] : List E39) (rm860) _ (hS.rdRo 0 rfl) (hS.rdRo 6 rfl) (by first | omega | (simp; done)) (by first | omega | (simp; done))) ?_)
      clear hF; rintro _ w ⟨rfl, hS1⟩ a hF
      replace hS := hS.callB hS1 rfl; clear hS1
      replace hSS := hS.sub [3, 2, 4] (by decide) rfl (by simp)
      refine ⟨.inr hSS, ?_⟩
      replace hF := fr_set (b' := true) hF (by rw [decide_eq_true_eq]; exact ⟨(flushF_eq hd2 hq915).1.trans hcu, (flushF_eq hd2 hq915).2.symm, rfl⟩)
      refine ha_y 25 hF rfl rfl rfl (wn_none rfl) (.inr hSS) (yl_pick (u := _) (v := undef) hF rfl rfl (fun _ => rfl) (fun h => by cases h)) ?_
      clear hF; intro a hF
      refine ha_y 26 hF rfl rfl rfl (wn_none rfl) (.inr hSS) (yl_move hF rfl rfl) ?_
      clear hF; intro a hF
      refine ha_l 27 hF rfl rfl rfl (wn_t hF rfl rfl rfl rfl) hSS (yl_loadK (rs := [_, _, _]) (fun _ h => h) hF rfl rfl 0 rfl ag25 sz25 rfl rfl) ?_
      clear hF; intro a hF
      refine ha_l 29 hF rfl rfl rfl (wn_t hF rfl rfl rfl rfl) hSS (yl_loadK (rs := [_, _, _]) (fun _ h => h) hF rfl rfl 0 rfl ag25 sz25 rfl rfl) ?_
      clear hF; intro a hF
      refine ha_one 28 (by kernel_rfl) rfl (wn_t hF rfl rfl rfl rfl) (wp_call (vs := [_]) hF rfl rfl rfl rfl cf21 (flush_any (flSt st857 Lq859) _ ([] : List E39) (rm860) _ (hS.rdRo 6 rfl) (by first | omega | (simp; done)) (by first | omega | (simp; done))) ?_)
      clear hF; rintro _ w ⟨st917, rm918, v919, rfl, hq920, hE921, hS1⟩ a hF
      replace hS := hS.callB hS1 rfl; clear hS1
      have hq920b := flushF_bd hq920; replace hS := hS.addRo (hE921.rd enc39 2 _); obtain ⟨Av919, cv919, rfl⟩ := (hE921.rd enc39 2 w).form
      replace hSS := hS.sub [4, 3, 5] (by decide) rfl (by simp)
      refine ⟨.inr hSS, ?_⟩
      refine ha_one 30 (by kernel_rfl) rfl (wn_t hF rfl rfl rfl rfl) (wp_call (vs := [_, _]) hF rfl rfl rfl rfl cf28 (sameD_any st917 _ ([] : List E39) (rm918) (flSt st857 Lq859) _ ([] : List E39) (rm860) _ (hS.rdRo 0 rfl) (hS.rdRo 7 rfl) (by first | omega | (simp; done)) (by first | omega | (simp; done))) ?_)
      clear hF; rintro _ w ⟨rfl, hS1⟩ a hF
      replace hS := hS.callB hS1 rfl; clear hS1
      replace hSS := hS.sub [4, 3, 5] (by decide) rfl (by simp)
      refine ⟨.inr hSS, ?_⟩
      replace hF := fr_set (b' := true) hF (by rw [decide_eq_true_eq]; exact ⟨(flushF_eq (okD_fl hd861d) hq920).1, (flushF_eq (okD_fl hd861d) hq920).2.symm, rfl⟩)
      refine ha_y 31 hF rfl rfl rfl (wn_none rfl) (.inr hSS) (yl_pick (u := _) (v := undef) hF rfl rfl (fun _ => rfl) (fun h => by cases h)) ?_
      clear hF; intro a hF
      refine ha_y 32 hF rfl rfl rfl (wn_none rfl) (.inr hSS) (yl_move hF rfl rfl) ?_
      clear hF; intro a hF
      refine ha_one 33 (by kernel_rfl) rfl (wn_t hF rfl rfl rfl rfl) (wp_call (vs := []) hF rfl rfl rfl rfl cf18 (awake_any _) ?_)
      clear hF; rintro _ w ⟨rfl, hS1⟩ a hF
      replace hS := hS.callB hS1 rfl; clear hS1
      replace hSS := hS.sub [4, 3, 5] (by decide) rfl (by simp)
      refine ⟨.inr hSS, ?_⟩
      refine ha_y 34 hF rfl rfl rfl (wn_none rfl) (.inr hSS) (yl_pick (u := _) (v := undef) hF rfl rfl (fun _ => rfl) (fun h => by cases h)) ?_
      clear hF; intro a hF
      refine ha_y 35 hF rfl rfl rfl (wn_none rfl) (.inr hSS) (yl_assign hF rfl rfl) ?_
      clear hF; intro a hF
      refine ha_done (by kernel_rfl) ?_ _
      refine then_n ?_
      refine wp_ret ?_
      refine ret_t hF rfl rfl ?_
      exact ⟨_, rfl, rfl, (hS.sub [] (by decide) (by first | rfl | simp) (by simp))⟩

end Go.Proofs.Yteidhjdkaaddgaa

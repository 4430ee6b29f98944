/- walks, printed by wip/gen -/
import Derived.Test.YteidhjdkaaddgaaWa
import Derived.Test.YteidhjdkaaddgaaW6
import Derived.Test.YteidhjdkaaddgaaW7
import Derived.Test.YteidhjdkaaddgaaWB
namespace Go.Proofs.Yteidhjdkaaddgaa
open Go.RowKit
set_option linter.unusedVariables false
set_option linter.unusedSimpArgs false

set_option maxHeartbeats 2000000 in
set_option maxRecDepth 100000 in
theorem through_any (v : Value) (L : List Int) (n1 n2 n3 n4 : Int) (w0 : World) (hv : Rd w0 1 v (L).length (cells encI (L))) (hL : L.length ≤ 9223372036854775807) :
    Fn Try.prog 3 #[v, .int .i64 n1, .int .i64 n2, .int .i64 n3, .int .i64 n4] w0 (fun v w' => v = .bool true ∧ Sat w0 w' []) := by
  obtain ⟨Av, cv, rfl⟩ := Rd.form hv
  refine c_enter (N := 103) (l := [_, _, _, _, _]) Try.func3 rfl rfl (fun a w hF hS => ?_)
  replace hS := hS.addRo hv
  refine c_seq ?_
  refine c_region ?_
  refine seq_yl hF (wn_none rfl) rfl rfl (yl_assign hF rfl rfl) ?_
  clear hF; intro a hF
  refine wpList_nil ?_
  refine then_n ?_
  refine c_seq ?_
  refine c_region ?_
  refine seq_yl hF (wn_none rfl) rfl rfl (yl_move hF rfl rfl) ?_
  clear hF; intro a hF
  refine seq_wp (wn_none rfl) (wp_call (vs := [_]) hF rfl rfl rfl rfl cf11 (drive_any _ L _ (hS.rdRo 0 rfl) (by first | omega | (simp; done) | (simp; omega))) ?_)
  clear hF; rintro _ w ⟨st558, v559, Lq560, rm561, rfl, hd562, hS1⟩ a hF
  replace hS := hS.callB hS1 rfl; clear hS1
  obtain ⟨Av559, cv559, rfl⟩ := hS.form 0 rfl
  obtain ⟨hd562d, hd562s⟩ := hd562; have hd562i := okD_I hd562d
  refine seq_wp (wn_none rfl) (wp_alloc (cs := #[_, _, _]) hF hS rfl rfl rfl zr25 rfl ?_)
  clear hF hS; intro a w g563 hF hS
  refine seq_wp (wn_none rfl) (wp_store (cs' := #[_, _, _]) hF hS rfl rfl rfl rfl 0 rfl sz25 (by simp [Value.cells, Value.oneCell']) (by simp [Value.cells]) rfl ?_)
  clear hF hS; intro a w hF hS
  refine wpList_nil ?_
  refine then_n ?_
  refine c_seq ?_
  refine c_region ?_
  refine seq_yl hF (wn_none rfl) rfl rfl (yl_move hF rfl rfl) ?_
  clear hF; intro a hF
  refine seq_yl hF (wn_none rfl) rfl rfl (yl_loadK (rs := [_, _, _]) (fun _ h => h ▸ hS) hF rfl rfl 0 rfl ag25 sz25 rfl rfl) ?_
  clear hF; intro a hF
  refine seq_wp (wn_none rfl) (wp_call (vs := [_]) hF rfl rfl rfl rfl cf13 (secs_any st558 _ _ _ (by omega)) ?_)
  clear hF; rintro _ w ⟨rfl, hS1⟩ a hF
  replace hS := hS.callB hS1 rfl; clear hS1
  have hr564 := rnd_any (n1) ((((st558).size : Int) / 8))
  refine seq_wp (wn_none rfl) (wp_call (vs := [_, _]) hF rfl rfl rfl rfl cf12 (round_any (n1) ((((st558).size : Int) / 8)) _ (by omega)) ?_)
  clear hF; rintro _ w ⟨rfl, hS1⟩ a hF
  replace hS := hS.callB hS1 rfl; clear hS1
  refine seq_yl hF (wn_none rfl) rfl rfl (yl_assign hF rfl rfl) ?_
  clear hF; intro a hF
  refine wpList_nil ?_
  refine then_n ?_
  refine c_seq ?_
  refine c_cut (fun a w => ∃ (st566 : ByteArray) (Lq568 : List E39) (g572 : Nat) (Av567 : Option Addr) (cv567 : Nat), (writeF st558 Lq560 (rm561) ((rnd (n1) ((((st558).size : Int) / 8)))) (dataF (n2) (1 : Int)) true = (st566, Lq568, (rm561), true)) ∧ (okD st566 Lq568 (rm561)) ∧ (((st566).size : Int) = ((st558).size : Int)) ∧ Fr 103 a [(0, .slice Av (L).length cv), (1, .int .i64 (n1)), (2, .int .i64 (n2)), (3, .int .i64 (n3)), (4, .int .i64 (n4)), (10, .bool false), (11, .pointer (some ⟨g563, 0, none⟩)), (12, .int .i64 ((rnd (n1) ((((st558).size : Int) / 8))))), (13, .pointer (some ⟨g572, 0, none⟩)), (14, .bool true)] ∧ Sat w0 w (.box g572 25 #[.string st566, .slice Av567 (Lq568).length cv567, .int .i64 ((rm561))] :: .row 39 2 (.slice Av567 (Lq568).length cv567) (Lq568).length (cells enc39 (Lq568)) :: .box g563 25 #[.string st558, .slice Av559 (Lq560).length cv559, .int .i64 (rm561)] :: .row 39 2 (.slice Av559 (Lq560).length cv559) (Lq560).length (cells enc39 (Lq560)) :: .ro 1 (.slice Av (L).length cv) (L).length (cells encI (L)) :: [])) ?_ ?_
  · skip
    refine ha_startS hS [0] 11 (by kernel_rfl) ?_; clear hS; intro w hS
    have hSS := hS.sub [0] (by decide) rfl (by simp)
    refine ha_y 1 hF rfl rfl rfl (wn_none rfl) (.inr hSS) (yl_move hF rfl rfl) ?_
    clear hF; intro a hF
    refine ha_y 2 hF rfl rfl rfl (wn_none rfl) (.inr hSS) (yl_move hF rfl rfl) ?_
    clear hF; intro a hF
    refine ha_l 0 hF rfl rfl rfl (wn_none rfl) hSS (yl_loadK (rs := [_, _, _]) (fun _ h => h) hF rfl rfl 0 rfl ag25 sz25 rfl rfl) ?_
    clear hF; intro a hF
    refine ha_all (rs := [3, 8]) (by kernel_rfl) (by simp) ?_
    refine List.forall_mem_cons.2 ⟨?_, List.forall_mem_cons.2 ⟨?_, (fun _ h => by cases h)⟩⟩
    · skip
      refine ha_op 3 rfl (wn_none rfl) (wp_call (vs := [_, _]) hF rfl rfl rfl rfl cf15 (data_any (n2) (1 : Int) _ (by omega)) ?_)
      clear hF; rintro _ w ⟨rfl, hS1⟩ a hF
      replace hS := hS.callB hS1 rfl; clear hS1
      have hz573 := dataF_size (n2) (1 : Int)
      replace hSS := hS.sub [0] (by decide) rfl (by simp)
      refine ⟨.inr hSS, ?_⟩
      refine ha_all (rs := [4, 8]) (by kernel_rfl) (by simp) ?_
      refine List.forall_mem_cons.2 ⟨?_, List.forall_mem_cons.2 ⟨?_, (fun _ h => by cases h)⟩⟩
      · skip
        refine ha_op 4 rfl (wn_none rfl) (wp_call (vs := [_, _, _, _]) hF rfl rfl rfl rfl cf14 (write_any st558 _ Lq560 (rm561) ((rnd (n1) ((((st558).size : Int) / 8)))) (dataF (n2) (1 : Int)) true _ (hS.rdRow 1 rfl) (by first | omega | (simp; done)) (by first | omega | (simp; done)) (by first | omega | (simp; done))) ?_)
        clear hF; rintro _ w ⟨st574, v575, Lq576, rm577, b578, rfl, hq579, hS1⟩ a hF
        replace hS := hS.callB hS1 rfl; clear hS1
        obtain ⟨Av575, cv575, rfl⟩ := hS.form 0 rfl
        have hq579b := writeF_bd hq579
        obtain ⟨rfl, -, -, hq579d, hq579s, rfl⟩ := (writeF_ok hq579).resolve_right (fun h9 => h9.2.1 (⟨(by assumption), okW_of (by unfold okS okI; omega) (by omega)⟩))
        have hq579i := okD_I hq579d
        replace hSS := hS.sub [1] (by decide) rfl (by simp)
        refine ⟨.inr hSS, ?_⟩
        refine ha_y 5 hF rfl rfl rfl (wn_none rfl) (.inr hSS) (yl_move hF rfl rfl) ?_
        clear hF; intro a hF
        refine ha_y 6 hF rfl rfl rfl (wn_none rfl) (.inr hSS) (yl_extract hF rfl rfl rfl) ?_
        clear hF; intro a hF
        refine ha_y 7 hF rfl rfl rfl (wn_none rfl) (.inr hSS) (yl_extract hF rfl rfl rfl) ?_
        clear hF; intro a hF
        refine ha_one 8 (by kernel_rfl) rfl (wn_none rfl) (wp_alloc (cs := #[_, _, _]) hF hS rfl rfl rfl zr25 rfl ?_)
        clear hF hS; intro a w g580 hF hS
        replace hSS := hS.sub [2] (by decide) rfl (by simp)
        refine ⟨.inr hSS, ?_⟩
        refine ha_one 9 (by kernel_rfl) rfl (wn_none rfl) (wp_store (cs' := #[_, _, _]) hF hS rfl rfl rfl rfl 0 rfl sz25 (by simp [Value.cells, Value.oneCell']) (by simp [Value.cells]) rfl ?_)
        clear hF hS; intro a w hF hS
        replace hSS := hS.sub [2] (by decide) rfl (by simp)
        refine ⟨.inr hSS, ?_⟩
        refine ha_y 10 hF rfl rfl rfl (wn_none rfl) (.inr hSS) (yl_assign hF rfl rfl) ?_
        clear hF; intro a hF
        refine ha_done (by kernel_rfl) ?_ _
        refine cut_n ?_
        exact ⟨_, _, _, _, _, hq579, hq579d, hq579s, hF.to [0, 1, 2, 3, 4, 10, 11, 12, 13, 14] rfl, (hS.sub [0, 1, 2, 3, 4] (by decide) (by first | rfl | simp) (by simp))⟩
      · skip
        refine ha_op 8 rfl (wn_none rfl) (wp_alloc (cs := #[_, _, _]) hF hS rfl rfl rfl zr25 rfl ?_)
        clear hF hS; intro a w g581 hF hS
        replace hSS := hS.sub [1] (by decide) rfl (by simp)
        refine ⟨.inr hSS, ?_⟩
        refine ha_one 4 (by kernel_rfl) rfl (wn_none rfl) (wp_call (vs := [_, _, _, _]) hF rfl rfl rfl rfl cf14 (write_any st558 _ Lq560 (rm561) ((rnd (n1) ((((st558).size : Int) / 8)))) (dataF (n2) (1 : Int)) true _ (hS.rdRow 2 rfl) (by first | omega | (simp; done)) (by first | omega | (simp; done)) (by first | omega | (simp; done))) ?_)
        clear hF; rintro _ w ⟨st582, v583, Lq584, rm585, b586, rfl, hq587, hS1⟩ a hF
        replace hS := hS.callB hS1 rfl; clear hS1
        obtain ⟨Av583, cv583, rfl⟩ := hS.form 0 rfl
        have hq587b := writeF_bd hq587
        obtain ⟨rfl, -, -, hq587d, hq587s, rfl⟩ := (writeF_ok hq587).resolve_right (fun h9 => h9.2.1 (⟨(by assumption), okW_of (by unfold okS okI; omega) (by omega)⟩))
        have hq587i := okD_I hq587d
        replace hSS := hS.sub [2] (by decide) rfl (by simp)
        refine ⟨.inr hSS, ?_⟩
        refine ha_y 5 hF rfl rfl rfl (wn_none rfl) (.inr hSS) (yl_move hF rfl rfl) ?_
        clear hF; intro a hF
        refine ha_y 6 hF rfl rfl rfl (wn_none rfl) (.inr hSS) (yl_extract hF rfl rfl rfl) ?_
        clear hF; intro a hF
        refine ha_y 7 hF rfl rfl rfl (wn_none rfl) (.inr hSS) (yl_extract hF rfl rfl rfl) ?_
        clear hF; intro a hF
        refine ha_one 9 (by kernel_rfl) rfl (wn_none rfl) (wp_store (cs' := #[_, _, _]) hF hS rfl rfl rfl rfl 1 rfl sz25 (by simp [Value.cells, Value.oneCell']) (by simp [Value.cells]) rfl ?_)
        clear hF hS; intro a w hF hS
        replace hSS := hS.sub [2] (by decide) rfl (by simp)
        refine ⟨.inr hSS, ?_⟩
        refine ha_y 10 hF rfl rfl rfl (wn_none rfl) (.inr hSS) (yl_assign hF rfl rfl) ?_
        clear hF; intro a hF
        refine ha_done (by kernel_rfl) ?_ _
        refine cut_n ?_
        exact ⟨_, _, _, _, _, hq587, hq587d, hq587s, hF.to [0, 1, 2, 3, 4, 10, 11, 12, 13, 14] rfl, (hS.sub [1, 0, 2, 3, 4] (by decide) (by first | rfl | simp) (by simp))⟩
    · skip
      refine ha_op 8 rfl (wn_none rfl) (wp_alloc (cs := #[_, _, _]) hF hS rfl rfl rfl zr25 rfl ?_)
      clear hF hS; intro a w g588 hF hS
      replace hSS := hS.sub [1] (by decide) rfl (by simp)
      refine ⟨.inr hSS, ?_⟩
      refine ha_one 3 (by kernel_rfl) rfl (wn_none rfl) (wp_call (vs := [_, _]) hF rfl rfl rfl rfl cf15 (data_any (n2) (1 : Int) _ (by omega)) ?_)
      clear hF; rintro _ w ⟨rfl, hS1⟩ a hF
      replace hS := hS.callB hS1 rfl; clear hS1
      have hz589 := dataF_size (n2) (1 : Int)
      replace hSS := hS.sub [1] (by decide) rfl (by simp)
      refine ⟨.inr hSS, ?_⟩
      refine ha_one 4 (by kernel_rfl) rfl (wn_none rfl) (wp_call (vs := [_, _, _, _]) hF rfl rfl rfl rfl cf14 (write_any st558 _ Lq560 (rm561) ((rnd (n1) ((((st558).size : Int) / 8)))) (dataF (n2) (1 : Int)) true _ (hS.rdRow 2 rfl) (by first | omega | (simp; done)) (by first | omega | (simp; done)) (by first | omega | (simp; done))) ?_)
      clear hF; rintro _ w ⟨st590, v591, Lq592, rm593, b594, rfl, hq595, hS1⟩ a hF
      replace hS := hS.callB hS1 rfl; clear hS1
      obtain ⟨Av591, cv591, rfl⟩ := hS.form 0 rfl
      have hq595b := writeF_bd hq595
      obtain ⟨rfl, -, -, hq595d, hq595s, rfl⟩ := (writeF_ok hq595).resolve_right (fun h9 => h9.2.1 (⟨(by assumption), okW_of (by unfold okS okI; omega) (by omega)⟩))
      have hq595i := okD_I hq595d
      replace hSS := hS.sub [2] (by decide) rfl (by simp)
      refine ⟨.inr hSS, ?_⟩
      refine ha_y 5 hF rfl rfl rfl (wn_none rfl) (.inr hSS) (yl_move hF rfl rfl) ?_
      clear hF; intro a hF
      refine ha_y 6 hF rfl rfl rfl (wn_none rfl) (.inr hSS) (yl_extract hF rfl rfl rfl) ?_
      clear hF; intro a hF
      refine ha_y 7 hF rfl rfl rfl (wn_none rfl) (.inr hSS) (yl_extract hF rfl rfl rfl) ?_
      clear hF; intro a hF
      refine ha_one 9 (by kernel_rfl) rfl (wn_none rfl) (wp_store (cs' := #[_, _, _]) hF hS rfl rfl rfl rfl 1 rfl sz25 (by simp [Value.cells, Value.oneCell']) (by simp [Value.cells]) rfl ?_)
      clear hF hS; intro a w hF hS
      replace hSS := hS.sub [2] (by decide) rfl (by simp)
      refine ⟨.inr hSS, ?_⟩
      refine ha_y 10 hF rfl rfl rfl (wn_none rfl) (.inr hSS) (yl_assign hF rfl rfl) ?_
      clear hF; intro a hF
      refine ha_done (by kernel_rfl) ?_ _
      refine cut_n ?_
      exact ⟨_, _, _, _, _, hq595, hq595d, hq595s, hF.to [0, 1, 2, 3, 4, 10, 11, 12, 13, 14] rfl, (hS.sub [1, 0, 2, 3, 4] (by decide) (by first | rfl | simp) (by simp))⟩
  clear hF hS
  rintro a w ⟨st566, Lq568, g572, Av567, cv567, hcut564_0, hcut564_1, hcut564_2, hF, hS⟩
  have hq571 := hcut564_0; have hq571b := writeF_bd hq571
  have hq571d := hcut564_1; have hq571s := hcut564_2; have hq571i := okD_I hq571d
  refine then_n ?_
  refine c_seq ?_
  refine c_region ?_
  refine seq_yl hF (wn_none rfl) rfl rfl (yl_move hF rfl rfl) ?_
  clear hF; intro a hF
  refine seq_yl hF (wn_none rfl) rfl rfl (yl_loadK (rs := [_, _, _]) (fun _ h => h ▸ hS) hF rfl rfl 2 rfl ag25 sz25 rfl rfl) ?_
  clear hF; intro a hF
  refine seq_wp (wn_none rfl) (wp_call (vs := [_]) hF rfl rfl rfl rfl cf13 (secs_any st558 _ _ _ (by omega)) ?_)
  clear hF; rintro _ w ⟨rfl, hS1⟩ a hF
  replace hS := hS.callB hS1 rfl; clear hS1
  have hr596 := rnd_any (n3) ((((st558).size : Int) / 8))
  refine seq_wp (wn_none rfl) (wp_call (vs := [_, _]) hF rfl rfl rfl rfl cf12 (round_any (n3) ((((st558).size : Int) / 8)) _ (by omega)) ?_)
  clear hF; rintro _ w ⟨rfl, hS1⟩ a hF
  replace hS := hS.callB hS1 rfl; clear hS1
  refine seq_yl hF (wn_none rfl) rfl rfl (yl_assign hF rfl rfl) ?_
  clear hF; intro a hF
  refine wpList_nil ?_
  refine then_n ?_
  refine c_seq ?_
  refine c_cut (fun a w => ∃ (st598 : ByteArray) (Lq600 : List E39) (g604 : Nat) (Av599 : Option Addr) (cv599 : Nat), (writeF st566 Lq568 ((rm561)) ((rnd (n3) ((((st558).size : Int) / 8)))) (dataF (n4) (1 : Int)) false = (st598, Lq600, ((rm561)), true)) ∧ (okD st598 Lq600 ((rm561))) ∧ (((st598).size : Int) = ((st566).size : Int)) ∧ Fr 103 a [(0, .slice Av (L).length cv), (1, .int .i64 (n1)), (2, .int .i64 (n2)), (3, .int .i64 (n3)), (4, .int .i64 (n4)), (10, .bool false), (11, .pointer (some ⟨g563, 0, none⟩)), (12, .int .i64 ((rnd (n1) ((((st558).size : Int) / 8))))), (13, .pointer (some ⟨g572, 0, none⟩)), (14, .bool true), (15, .int .i64 ((rnd (n3) ((((st558).size : Int) / 8))))), (16, .pointer (some ⟨g604, 0, none⟩)), (17, .bool true)] ∧ Sat w0 w (.box g604 25 #[.string st598, .slice Av599 (Lq600).length cv599, .int .i64 (((rm561)))] :: .row 39 2 (.slice Av599 (Lq600).length cv599) (Lq600).length (cells enc39 (Lq600)) :: .box g572 25 #[.string st566, .slice Av567 (Lq568).length cv567, .int .i64 ((rm561))] :: .row 39 2 (.slice Av567 (Lq568).length cv567) (Lq568).length (cells enc39 (Lq568)) :: .box g563 25 #[.string st558, .slice Av559 (Lq560).length cv559, .int .i64 (rm561)] :: .row 39 2 (.slice Av559 (Lq560).length cv559) (Lq560).length (cells enc39 (Lq560)) :: .ro 1 (.slice Av (L).length cv) (L).length (cells encI (L)) :: [])) ?_ ?_
  · skip
    refine ha_startS hS [0] 11 (by kernel_rfl) ?_; clear hS; intro w hS
    have hSS := hS.sub [0] (by decide) rfl (by simp)
    refine ha_y 1 hF rfl rfl rfl (wn_none rfl) (.inr hSS) (yl_move hF rfl rfl) ?_
    clear hF; intro a hF
    refine ha_y 2 hF rfl rfl rfl (wn_none rfl) (.inr hSS) (yl_move hF rfl rfl) ?_
    clear hF; intro a hF
    refine ha_l 0 hF rfl rfl rfl (wn_none rfl) hSS (yl_loadK (rs := [_, _, _]) (fun _ h => h) hF rfl rfl 0 rfl ag25 sz25 rfl rfl) ?_
    clear hF; intro a hF
    refine ha_all (rs := [3, 8]) (by kernel_rfl) (by simp) ?_
    refine List.forall_mem_cons.2 ⟨?_, List.forall_mem_cons.2 ⟨?_, (fun _ h => by cases h)⟩⟩
    · skip
      refine ha_op 3 rfl (wn_none rfl) (wp_call (vs := [_, _]) hF rfl rfl rfl rfl cf15 (data_any (n4) (1 : Int) _ (by omega)) ?_)
      clear hF; rintro _ w ⟨rfl, hS1⟩ a hF
      replace hS := hS.callB hS1 rfl; clear hS1
      have hz605 := dataF_size (n4) (1 : Int)
      replace hSS := hS.sub [0] (by decide) rfl (by simp)
      refine ⟨.inr hSS, ?_⟩
      refine ha_all (rs := [4, 8]) (by kernel_rfl) (by simp) ?_
      refine List.forall_mem_cons.2 ⟨?_, List.forall_mem_cons.2 ⟨?_, (fun _ h => by cases h)⟩⟩
      · skip
        refine ha_op 4 rfl (wn_none rfl) (wp_call (vs := [_, _, _, _]) hF rfl rfl rfl rfl cf14 (write_any st566 _ Lq568 ((rm561)) ((rnd (n3) ((((st558).size : Int) / 8)))) (dataF (n4) (1 : Int)) false _ (hS.rdRow 1 rfl) (by first | omega | (simp; done)) (by first | omega | (simp; done)) (by first | omega | (simp; done))) ?_)
        clear hF; rintro _ w ⟨st606, v607, Lq608, rm609, b610, rfl, hq611, hS1⟩ a hF
        replace hS := hS.callB hS1 rfl; clear hS1
        obtain ⟨Av607, cv607, rfl⟩ := hS.form 0 rfl
        have hq611b := writeF_bd hq611
        obtain ⟨rfl, -, -, hq611d, hq611s, rfl⟩ := (writeF_ok hq611).resolve_right (fun h9 => h9.2.1 (⟨(by assumption), okW_of (by unfold okS okI; omega) (by omega)⟩))
        have hq611i := okD_I hq611d
        replace hSS := hS.sub [1] (by decide) rfl (by simp)
        refine ⟨.inr hSS, ?_⟩
        refine ha_y 5 hF rfl rfl rfl (wn_none rfl) (.inr hSS) (yl_move hF rfl rfl) ?_
        clear hF; intro a hF
        refine ha_y 6 hF rfl rfl rfl (wn_none rfl) (.inr hSS) (yl_extract hF rfl rfl rfl) ?_
        clear hF; intro a hF
        refine ha_y 7 hF rfl rfl rfl (wn_none rfl) (.inr hSS) (yl_extract hF rfl rfl rfl) ?_
        clear hF; intro a hF
        refine ha_one 8 (by kernel_rfl) rfl (wn_none rfl) (wp_alloc (cs := #[_, _, _]) hF hS rfl rfl rfl zr25 rfl ?_)
        clear hF hS; intro a w g612 hF hS
        replace hSS := hS.sub [2] (by decide) rfl (by simp)
        refine ⟨.inr hSS, ?_⟩
        refine ha_one 9 (by kernel_rfl) rfl (wn_none rfl) (wp_store (cs' := #[_, _, _]) hF hS rfl rfl rfl rfl 0 rfl sz25 (by simp [Value.cells, Value.oneCell']) (by simp [Value.cells]) rfl ?_)
        clear hF hS; intro a w hF hS
        replace hSS := hS.sub [2] (by decide) rfl (by simp)
        refine ⟨.inr hSS, ?_⟩
        refine ha_y 10 hF rfl rfl rfl (wn_none rfl) (.inr hSS) (yl_assign hF rfl rfl) ?_
        clear hF; intro a hF
        refine ha_done (by kernel_rfl) ?_ _
        refine cut_n ?_
        exact ⟨_, _, _, _, _, hq611, hq611d, hq611s, hF.to [0, 1, 2, 3, 4, 10, 11, 12, 13, 14, 15, 16, 17] rfl, (hS.sub [0, 1, 2, 3, 4, 5, 6] (by decide) (by first | rfl | simp) (by simp))⟩
      · skip
        refine ha_op 8 rfl (wn_none rfl) (wp_alloc (cs := #[_, _, _]) hF hS rfl rfl rfl zr25 rfl ?_)
        clear hF hS; intro a w g613 hF hS
        replace hSS := hS.sub [1] (by decide) rfl (by simp)
        refine ⟨.inr hSS, ?_⟩
        refine ha_one 4 (by kernel_rfl) rfl (wn_none rfl) (wp_call (vs := [_, _, _, _]) hF rfl rfl rfl rfl cf14 (write_any st566 _ Lq568 ((rm561)) ((rnd (n3) ((((st558).size : Int) / 8)))) (dataF (n4) (1 : Int)) false _ (hS.rdRow 2 rfl) (by first | omega | (simp; done)) (by first | omega | (simp; done)) (by first | omega | (simp; done))) ?_)
        clear hF; rintro _ w ⟨st614, v615, Lq616, rm617, b618, rfl, hq619, hS1⟩ a hF
        replace hS := hS.callB hS1 rfl; clear hS1
        obtain ⟨Av615, cv615, rfl⟩ := hS.form 0 rfl
        have hq619b := writeF_bd hq619
        obtain ⟨rfl, -, -, hq619d, hq619s, rfl⟩ := (writeF_ok hq619).resolve_right (fun h9 => h9.2.1 (⟨(by assumption), okW_of (by unfold okS okI; omega) (by omega)⟩))
        have hq619i := okD_I hq619d
        replace hSS := hS.sub [2] (by decide) rfl (by simp)
        refine ⟨.inr hSS, ?_⟩
        refine ha_y 5 hF rfl rfl rfl (wn_none rfl) (.inr hSS) (yl_move hF rfl rfl) ?_
        clear hF; intro a hF
        refine ha_y 6 hF rfl rfl rfl (wn_none rfl) (.inr hSS) (yl_extract hF rfl rfl rfl) ?_
        clear hF; intro a hF
        refine ha_y 7 hF rfl rfl rfl (wn_none rfl) (.inr hSS) (yl_extract hF rfl rfl rfl) ?_
        clear hF; intro a hF
        refine ha_one 9 (by kernel_rfl) rfl (wn_none rfl) (wp_store (cs' := #[_, _, _]) hF hS rfl rfl rfl rfl 1 rfl sz25 (by simp [Value.cells, Value.oneCell']) (by simp [Value.cells]) rfl ?_)
        clear hF hS; intro a w hF hS
        replace hSS := hS.sub [2] (by decide) rfl (by simp)
        refine ⟨.inr hSS, ?_⟩
        refine ha_y 10 hF rfl rfl rfl (wn_none rfl) (.inr hSS) (yl_assign hF rfl rfl) ?_
        clear hF; intro a hF
        refine ha_done (by kernel_rfl) ?_ _
        refine cut_n ?_
        exact ⟨_, _, _, _, _, hq619, hq619d, hq619s, hF.to [0, 1, 2, 3, 4, 10, 11, 12, 13, 14, 15, 16, 17] rfl, (hS.sub [1, 0, 2, 3, 4, 5, 6] (by decide) (by first | rfl | simp) (by simp))⟩
    · skip
      refine ha_op 8 rfl (wn_none rfl) (wp_alloc (cs := #[_, _, _]) hF hS rfl rfl rfl zr25 rfl ?_)
      clear hF hS; intro a w g620 hF hS
      replace hSS := hS.sub [1] (by decide) rfl (by simp)
      refine ⟨.inr hSS, ?_⟩
      refine ha_one 3 (by kernel_rfl) rfl (wn_none rfl) (wp_call (vs := [_, _]) hF rfl rfl rfl rfl cf15 (data_any (n4) (1 : Int) _ (by omega)) ?_)
      clear hF; rintro _ w ⟨rfl, hS1⟩ a hF
      replace hS := hS.callB hS1 rfl; clear hS1
      have hz621 := dataF_size (n4) (1 : Int)
      replace hSS := hS.sub [1] (by decide) rfl (by simp)
      refine ⟨.inr hSS, ?_⟩
      refine ha_one 4 (by kernel_rfl) rfl (wn_none rfl) (wp_call (vs := [_, _, _, _]) hF rfl rfl rfl rfl cf14 (write_any st566 _ Lq568 ((rm561)) ((rnd (n3) ((((st558).size : Int) / 8)))) (dataF (n4) (1 : Int)) false _ (hS.rdRow 2 rfl) (by first | omega | (simp; done)) (by first | omega | (simp; done)) (by first | omega | (simp; done))) ?_)
      clear hF; rintro _ w ⟨st622, v623, Lq624, rm625, b626, rfl, hq627, hS1⟩ a hF
      replace hS := hS.callB hS1 rfl; clear hS1
      obtain ⟨Av623, cv623, rfl⟩ := hS.form 0 rfl
      have hq627b := writeF_bd hq627
      obtain ⟨rfl, -, -, hq627d, hq627s, rfl⟩ := (writeF_ok hq627).resolve_right (fun h9 => h9.2.1 (⟨(by assumption), okW_of (by unfold okS okI; omega) (by omega)⟩))
      have hq627i := okD_I hq627d
      replace hSS := hS.sub [2] (by decide) rfl (by simp)
      refine ⟨.inr hSS, ?_⟩
      refine ha_y 5 hF rfl rfl rfl (wn_none rfl) (.inr hSS) (yl_move hF rfl rfl) ?_
      clear hF; intro a hF
      refine ha_y 6 hF rfl rfl rfl (wn_none rfl) (.inr hSS) (yl_extract hF rfl rfl rfl) ?_
      clear hF; intro a hF
      refine ha_y 7 hF rfl rfl rfl (wn_none rfl) (.inr hSS) (yl_extract hF rfl rfl rfl) ?_
      clear hF; intro a hF
      refine ha_one 9 (by kernel_rfl) rfl (wn_none rfl) (wp_store (cs' := #[_, _, _]) hF hS rfl rfl rfl rfl 1 rfl sz25 (by simp [Value.cells, Value.oneCell']) (by simp [Value.cells]) rfl ?_)
      clear hF hS; intro a w hF hS
      replace hSS := hS.sub [2] (by decide) rfl (by simp)
      refine ⟨.inr hSS, ?_⟩
      refine ha_y 10 hF rfl rfl rfl (wn_none rfl) (.inr hSS) (yl_assign hF rfl rfl) ?_
      clear hF; intro a hF
      refine ha_done (by kernel_rfl) ?_ _
      refine cut_n ?_
      exact ⟨_, _, _, _, _, hq627, hq627d, hq627s, hF.to [0, 1, 2, 3, 4, 10, 11, 12, 13, 14, 15, 16, 17] rfl, (hS.sub [1, 0, 2, 3, 4, 5, 6] (by decide) (by first | rfl | simp) (by simp))⟩
  clear hF hS
  rintro a w ⟨st598, Lq600, g604, Av599, cv599, hcut596_0, hcut596_1, hcut596_2, hF, hS⟩
  have hq603 := hcut596_0; have hq603b := writeF_bd hq603
  have hq603d := hcut596_1; have hq603s := hcut596_2; have hq603i := okD_I hq603d
  refine then_n ?_
  refine c_seq ?_
  refine ha_startS hS [2, 0] 8 (by kernel_rfl) ?_; clear hS; intro w hS
  have hSS := hS.sub [2, 0] (by decide) rfl (by simp)
  refine ha_y 1 hF rfl rfl rfl (wn_none rfl) (.inr hSS) (yl_move hF rfl rfl) ?_
  clear hF; intro a hF
  refine ha_y 4 hF rfl rfl rfl (wn_none rfl) (.inr hSS) (yl_move hF rfl rfl) ?_
  clear hF; intro a hF
  refine ha_l 0 hF rfl rfl rfl (wn_none rfl) hSS (yl_loadK (rs := [_, _, _]) (fun _ h => h) hF rfl rfl 0 rfl ag25 sz25 rfl rfl) ?_
  clear hF; intro a hF
  refine ha_l 3 hF rfl rfl rfl (wn_none rfl) hSS (yl_loadK (rs := [_, _, _]) (fun _ h => h) hF rfl rfl 1 rfl ag25 sz25 rfl rfl) ?_
  clear hF; intro a hF
  refine ha_one 2 (by kernel_rfl) rfl (wn_none rfl) (wp_call (vs := [_, _]) hF rfl rfl rfl rfl cf16 (vers_any st566 _ Lq568 ((rm561)) ((rnd (n1) ((((st558).size : Int) / 8)))) _ (hS.rdRow 3 rfl) (by first | omega | (simp; done)) (by first | omega | (simp; done))) ?_)
  clear hF; rintro _ w ⟨v628, M629, rfl, hM630, hS1⟩ a hF
  replace hS := hS.callB hS1 rfl; clear hS1
  obtain ⟨Av628, cv628, rfl⟩ := hS.form 0 rfl
  have hM630l := vers_len st566 Lq568 ((rm561)) ((rnd (n1) ((((st558).size : Int) / 8)))); rw [← hM630] at hM630l
  replace hSS := hS.sub [3, 1] (by decide) rfl (by simp)
  refine ⟨.inr hSS, ?_⟩
  refine ha_one 5 (by kernel_rfl) rfl (wn_none rfl) (wp_call (vs := [_, _]) hF rfl rfl rfl rfl cf16 (vers_any st598 _ Lq600 (((rm561))) ((rnd (n1) ((((st558).size : Int) / 8)))) _ (hS.rdRow 2 rfl) (by first | omega | (simp; done)) (by first | omega | (simp; done))) ?_)
  clear hF; rintro _ w ⟨v631, M632, rfl, hM633, hS1⟩ a hF
  replace hS := hS.callB hS1 rfl; clear hS1
  obtain ⟨Av631, cv631, rfl⟩ := hS.form 0 rfl
  have hM633l := vers_len st598 Lq600 (((rm561))) ((rnd (n1) ((((st558).size : Int) / 8)))); rw [← hM633] at hM633l
  replace hSS := hS.sub [4, 2] (by decide) rfl (by simp)
  refine ⟨.inr hSS, ?_⟩
  refine ha_y 6 hF rfl rfl rfl (wn_none rfl) (.inr hSS) (yl_assign hF rfl rfl) ?_
  clear hF; intro a hF
  refine ha_y 7 hF rfl rfl rfl (wn_none rfl) (.inr hSS) (yl_assign hF rfl rfl) ?_
  clear hF; intro a hF
  refine ha_done (by kernel_rfl) ?_ _
  refine then_n ?_
  refine c_seq ?_
  refine c_seq ?_
  refine ha_startS hS [1] 19 (by kernel_rfl) ?_; clear hS; intro w hS
  have hSS := hS.sub [1] (by decide) rfl (by simp)
  have hv1 : M629 = [(dataF (n2) (1 : Int))] := hM630.trans (thr1 (data8 _) hq571)
  have hl1 : M629.length = 1 := by rw [hv1]; rfl
  have hq1v : vers st566 Lq568 (rm561) ((rnd (n1) ((((st558).size : Int) / 8)))) = [(dataF (n2) (1 : Int))] := by rw [← hM630]; exact hv1
  have hv2 : ¬ ((rnd (n3) ((((st558).size : Int) / 8)))) = ((rnd (n1) ((((st558).size : Int) / 8)))) → M632 = [(dataF (n2) (1 : Int))] := fun h9 => hM633.trans (thr2 (data8 _) (by unfold okS okI; omega) h9 hq603 hq1v)
  have hv3 : M632 = versC st598 Lq600 ((rnd (n1) ((((st558).size : Int) / 8)))) := hM633.trans (if_pos ⟨hq603d, by unfold okS okI; omega⟩)
  have hl3 := versC_len st598 Lq600 ((rnd (n1) ((((st558).size : Int) / 8)))); rw [← hv3] at hl3
  have hn3 : ((rnd (n3) ((((st558).size : Int) / 8)))) = ((rnd (n1) ((((st558).size : Int) / 8)))) → newest st598 Lq600 ((rnd (n1) ((((st558).size : Int) / 8)))) = (dataF (n4) (1 : Int)) := fun h9 => by rw [← h9]; exact new_write (data8 _) hq603
  refine ha_y 0 hF rfl rfl rfl (wn_none rfl) (.inr hSS) (yl_move hF rfl rfl) ?_
  clear hF; intro a hF
  refine ha_y 1 hF rfl rfl rfl (wn_none rfl) (.inr hSS) (yl_un hF rfl rfl (fun _ => run_not)) ?_
  clear hF; intro a hF
  refine ha_y 2 hF rfl rfl rfl (wn_none rfl) (.inr hSS) (yl_move hF rfl rfl) ?_
  clear hF; intro a hF
  refine ha_y 3 hF rfl rfl rfl (wn_t hF rfl rfl rfl rfl) (.inr hSS) (yl_move hF rfl rfl) ?_
  clear hF; intro a hF
  refine ha_y 4 hF rfl rfl rfl (wn_t hF rfl rfl rfl rfl) (.inr hSS) (yl_un hF rfl rfl (fun _ => run_not)) ?_
  clear hF; intro a hF
  refine ha_y 5 hF rfl rfl rfl (wn_none rfl) (.inr hSS) (yl_pick (u := _) (v := undef) hF rfl rfl (fun h => by cases h) (fun _ => rfl)) ?_
  clear hF; intro a hF
  refine ha_y 6 hF rfl rfl rfl (wn_none rfl) (.inr hSS) (yl_move hF rfl rfl) ?_
  clear hF; intro a hF
  refine ha_y 7 hF rfl rfl rfl (wn_t hF rfl rfl rfl rfl) (.inr hSS) (yl_move hF rfl rfl) ?_
  clear hF; intro a hF
  refine ha_y 8 hF rfl rfl rfl (wn_t hF rfl rfl rfl rfl) (.inr hSS) (yl_len hF rfl rfl (fun _ => run_lenRd sl32 (hS.rdRow 1 rfl))) ?_
  clear hF; intro a hF
  refine ha_y 9 hF rfl rfl rfl (wn_t hF rfl rfl rfl rfl) (.inr hSS) (yl_bin hF rfl rfl rfl rfl (fun _ => run_neq)) ?_
  clear hF; intro a hF
  replace hF := fr_set (b' := false) hF (by rw [hl1]; decide)
  refine ha_y 10 hF rfl rfl rfl (wn_none rfl) (.inr hSS) (yl_pick (u := _) (v := undef) hF rfl rfl (fun h => by cases h) (fun _ => rfl)) ?_
  clear hF; intro a hF
  refine ha_y 11 hF rfl rfl rfl (wn_none rfl) (.inr hSS) (yl_move hF rfl rfl) ?_
  clear hF; intro a hF
  refine ha_y 12 hF rfl rfl rfl (wn_t hF rfl rfl rfl rfl) (.inr hSS) (yl_move hF rfl rfl) ?_
  clear hF; intro a hF
  have hlt_hx634 : 0 < (M629).length := by first | omega | (simp; done) | (simp; omega)
  obtain ⟨ad635, rfl⟩ := rd_some (hS.rdRow 1 rfl) hlt_hx634
  obtain ⟨x634, hx634⟩ := get_some hlt_hx634
  refine ha_y 13 hF rfl rfl rfl (wn_t hF rfl rfl rfl rfl) (.inr hSS) (yl_indexAddr hF rfl rfl rfl (fun _ => run_idx' (k := 0) sl32 sz9 (hS.rdRow 1 rfl) hlt_hx634)) ?_
  clear hF; intro a hF
  refine ha_y 15 hF rfl rfl rfl (wn_t hF rfl rfl rfl rfl) (.inr hSS) (yl_move hF rfl rfl) ?_
  clear hF; intro a hF
  refine ha_l 14 hF rfl rfl rfl (wn_t hF rfl rfl rfl rfl) hSS (yl_loadAt hF rfl rfl ag9 (fun _ h => rd_cell0 (enc := encS) (Sat.rdRow h 0 rfl) encS_len hx634 rfl rfl)) ?_
  clear hF; intro a hF
  refine ha_one 16 (by kernel_rfl) rfl (wn_t hF rfl rfl rfl rfl) (wp_call (vs := [_, _]) hF rfl rfl rfl rfl cf15 (data_any (n2) (1 : Int) _ (by omega)) ?_)
  clear hF; rintro _ w ⟨rfl, hS1⟩ a hF
  replace hS := hS.callB hS1 rfl; clear hS1
  have hz636 := dataF_size (n2) (1 : Int)
  replace hSS := hS.sub [1] (by decide) rfl (by simp)
  refine ⟨.inr hSS, ?_⟩
  refine ha_y 17 hF rfl rfl rfl (wn_t hF rfl rfl rfl rfl) (.inr hSS) (yl_bin hF rfl rfl rfl rfl (fun _ => run_str_neq)) ?_
  clear hF; intro a hF
  replace hF := fr_set (b' := false) hF (by have h9 := hx634; rw [hv1] at h9; injection h9 with h9; rw [← h9]; simp)
  refine ha_y 18 hF rfl rfl rfl (wn_none rfl) (.inr hSS) (yl_pick (u := _) (v := undef) hF rfl rfl (fun h => by cases h) (fun _ => rfl)) ?_
  clear hF; intro a hF
  refine ha_done (by kernel_rfl) ?_ _
  refine then_n ?_
  refine c_cond_f hF rfl ?_
  refine wp_skip ?_
  refine then_n ?_
  refine c_seq ?_
  refine ha_startS hS [0] 33 (by kernel_rfl) ?_; clear hS; intro w hS
  have hSS := hS.sub [0] (by decide) rfl (by simp)
  refine ha_y 0 hF rfl rfl rfl (wn_none rfl) (.inr hSS) (yl_move hF rfl rfl) ?_
  clear hF; intro a hF
  refine ha_y 1 hF rfl rfl rfl (wn_none rfl) (.inr hSS) (yl_move hF rfl rfl) ?_
  clear hF; intro a hF
  refine ha_y 2 hF rfl rfl rfl (wn_none rfl) (.inr hSS) (yl_bin hF rfl rfl rfl rfl (fun _ => run_eql)) ?_
  clear hF; intro a hF
  refine ha_y 3 hF rfl rfl rfl (wn_none rfl) (.inr hSS) (yl_move hF rfl rfl) ?_
  clear hF; intro a hF
  refine fr_split hF (fun hc637 hF => ?_) (fun hc637 hF => ?_)
  · first | (replace hc637 := of_decide_eq_true hc637) | (replace hc637 := of_decide_eq_false (bnot_t hc637)) | (replace hc637 := bnot_t hc637) | skip
    try (have hc637x := hc637; simp only [okS, okI, okW, okP] at hc637x)
    refine ha_s 4 hF rfl rfl rfl (wn_f hF rfl rfl rfl rfl) (.inr hSS) ?_
    clear hF; intro a hF
    refine ha_s 5 hF rfl rfl rfl (wn_f hF rfl rfl rfl rfl) (.inr hSS) ?_
    clear hF; intro a hF
    refine ha_s 6 hF rfl rfl rfl (wn_f hF rfl rfl rfl rfl) (.inr hSS) ?_
    clear hF; intro a hF
    refine ha_y 7 hF rfl rfl rfl (wn_none rfl) (.inr hSS) (yl_pick (u := _) (v := undef) hF rfl rfl (fun _ => rfl) (fun h => by cases h)) ?_
    clear hF; intro a hF
    refine ha_y 8 hF rfl rfl rfl (wn_none rfl) (.inr hSS) (yl_move hF rfl rfl) ?_
    clear hF; intro a hF
    refine ha_y 9 hF rfl rfl rfl (wn_t hF rfl rfl rfl rfl) (.inr hSS) (yl_move hF rfl rfl) ?_
    clear hF; intro a hF
    refine ha_y 10 hF rfl rfl rfl (wn_t hF rfl rfl rfl rfl) (.inr hSS) (yl_move hF rfl rfl) ?_
    clear hF; intro a hF
    refine ha_y 11 hF rfl rfl rfl (wn_t hF rfl rfl rfl rfl) (.inr hSS) (yl_bin hF rfl rfl rfl rfl (fun _ => run_neq)) ?_
    clear hF; intro a hF
    replace hF := fr_set (b' := false) hF (by rw [decide_eq_false_iff_not]; omega)
    refine ha_y 12 hF rfl rfl rfl (wn_t hF rfl rfl rfl rfl) (.inr hSS) (yl_move hF rfl rfl) ?_
    clear hF; intro a hF
    refine ha_y 13 hF rfl rfl rfl (wn_t hF rfl rfl rfl rfl) (.inr hSS) (yl_move hF rfl rfl) ?_
    clear hF; intro a hF
    refine ha_y 14 hF rfl rfl rfl (wn_t hF rfl rfl rfl rfl) (.inr hSS) (yl_len hF rfl rfl (fun _ => run_lenRd sl32 (hS.rdRow 0 rfl))) ?_
    clear hF; intro a hF
    refine ha_y 15 hF rfl rfl rfl (wn_t hF rfl rfl rfl rfl) (.inr hSS) (yl_bin hF rfl rfl rfl rfl (fun _ => run_geq)) ?_
    clear hF; intro a hF
    replace hF := fr_set (b' := true) hF (by rw [decide_eq_true_eq]; omega)
    refine ha_y 16 hF rfl rfl rfl (wn_t hF rfl rfl rfl rfl) (.inr hSS) (yl_move hF rfl rfl) ?_
    clear hF; intro a hF
    refine ha_y 17 hF rfl rfl rfl (wn_t hF rfl rfl rfl rfl) (.inr hSS) (yl_move hF rfl rfl) ?_
    clear hF; intro a hF
    refine ha_y 18 hF rfl rfl rfl (wn_t hF rfl rfl rfl rfl) (.inr hSS) (yl_move hF rfl rfl) ?_
    clear hF; intro a hF
    refine ha_y 19 hF rfl rfl rfl (wn_t hF rfl rfl rfl rfl) (.inr hSS) (yl_len hF rfl rfl (fun _ => run_lenRd sl32 (hS.rdRow 0 rfl))) ?_
    clear hF; intro a hF
    refine ha_y 20 hF rfl rfl rfl (wn_t hF rfl rfl rfl rfl) (.inr hSS) (yl_bin hF rfl rfl rfl rfl (fun _ => run_dec (c := 1) (by omega) (by omega))) ?_
    clear hF; intro a hF
    have hlt_hx638 : ((M632).length - 1) < (M632).length := by first | omega | (simp; done) | (simp; omega)
    obtain ⟨ad639, rfl⟩ := rd_some (hS.rdRow 0 rfl) hlt_hx638
    obtain ⟨x638, hx638⟩ := get_some hlt_hx638
    refine ha_y 21 hF rfl rfl rfl (wn_t hF rfl rfl rfl rfl) (.inr hSS) (yl_indexAddr hF rfl rfl rfl (fun _ => run_idx' sl32 sz9 (hS.rdRow 0 rfl) hlt_hx638)) ?_
    clear hF; intro a hF
    refine ha_y 23 hF rfl rfl rfl (wn_t hF rfl rfl rfl rfl) (.inr hSS) (yl_move hF rfl rfl) ?_
    clear hF; intro a hF
    refine ha_l 22 hF rfl rfl rfl (wn_t hF rfl rfl rfl rfl) hSS (yl_loadAt hF rfl rfl ag9 (fun _ h => rd_cell0 (enc := encS) (Sat.rdRow h 0 rfl) encS_len hx638 rfl rfl)) ?_
    clear hF; intro a hF
    refine ha_one 24 (by kernel_rfl) rfl (wn_t hF rfl rfl rfl rfl) (wp_call (vs := [_, _]) hF rfl rfl rfl rfl cf15 (data_any (n4) (1 : Int) _ (by omega)) ?_)
    clear hF; rintro _ w ⟨rfl, hS1⟩ a hF
    replace hS := hS.callB hS1 rfl; clear hS1
    have hz640 := dataF_size (n4) (1 : Int)
    replace hSS := hS.sub [0] (by decide) rfl (by simp)
    refine ⟨.inr hSS, ?_⟩
    refine ha_y 25 hF rfl rfl rfl (wn_t hF rfl rfl rfl rfl) (.inr hSS) (yl_bin hF rfl rfl rfl rfl (fun _ => run_str_eql)) ?_
    clear hF; intro a hF
    replace hF := fr_set (b' := true) hF (by have h9 := newest_at (st := st598) (L := Lq600) (s := ((rnd (n1) ((((st558).size : Int) / 8))))) (k := (M632).length - 1) (by rw [← hv3]; exact hx638) (by rw [← hv3]); rw [h9, hn3 (by omega)]; simp)
    refine ha_y 26 hF rfl rfl rfl (wn_t hF rfl rfl rfl rfl) (.inr hSS) (yl_pick (u := _) (v := undef) hF rfl rfl (fun _ => rfl) (fun h => by cases h)) ?_
    clear hF; intro a hF
    refine ha_y 27 hF rfl rfl rfl (wn_t hF rfl rfl rfl rfl) (.inr hSS) (yl_pick (u := _) (v := undef) hF rfl rfl (fun h => by cases h) (fun _ => rfl)) ?_
    clear hF; intro a hF
    refine ha_y 28 hF rfl rfl rfl (wn_none rfl) (.inr hSS) (yl_pick (u := _) (v := undef) hF rfl rfl (fun _ => rfl) (fun h => by cases h)) ?_
    clear hF; intro a hF
    refine ha_y 29 hF rfl rfl rfl (wn_none rfl) (.inr hSS) (yl_move hF rfl rfl) ?_
    clear hF; intro a hF
    refine ha_one 30 (by kernel_rfl) rfl (wn_t hF rfl rfl rfl rfl) (wp_call (vs := []) hF rfl rfl rfl rfl cf18 (awake_any _) ?_)
    clear hF; rintro _ w ⟨rfl, hS1⟩ a hF
    replace hS := hS.callB hS1 rfl; clear hS1
    replace hSS := hS.sub [0] (by decide) rfl (by simp)
    refine ⟨.inr hSS, ?_⟩
    refine ha_y 31 hF rfl rfl rfl (wn_none rfl) (.inr hSS) (yl_pick (u := _) (v := undef) hF rfl rfl (fun _ => rfl) (fun h => by cases h)) ?_
    clear hF; intro a hF
    refine ha_y 32 hF rfl rfl rfl (wn_none rfl) (.inr hSS) (yl_assign hF rfl rfl) ?_
    clear hF; intro a hF
    refine ha_done (by kernel_rfl) ?_ _
    refine then_n ?_
    refine wp_ret ?_
    refine ret_t hF rfl rfl ?_
    exact ⟨_, rfl, rfl, (hS.sub [] (by decide) (by first | rfl | simp) (by simp))⟩
  · first | (replace hc637 := of_decide_eq_false hc637) | (replace hc637 := of_decide_eq_true (bnot_f hc637)) | (replace hc637 := bnot_f hc637) | skip
    try (have hc637x := hc637; simp only [okS, okI, okW, okP] at hc637x)
    refine ha_y 4 hF rfl rfl rfl (wn_t hF rfl rfl rfl rfl) (.inr hSS) (yl_move hF rfl rfl) ?_
    clear hF; intro a hF
    refine ha_y 5 hF rfl rfl rfl (wn_t hF rfl rfl rfl rfl) (.inr hSS) (yl_move hF rfl rfl) ?_
    clear hF; intro a hF
    refine ha_one 6 (by kernel_rfl) rfl (wn_t hF rfl rfl rfl rfl) (wp_call (vs := [_, _]) hF rfl rfl rfl rfl cf17 (texts_any _ _ M629 M632 _ (hS.rdRow 1 rfl) (hS.rdRow 0 rfl) (by first | omega | (simp; done) | (simp; omega))) ?_)
    clear hF; rintro _ w ⟨rfl, hS1⟩ a hF
    replace hS := hS.callB hS1 rfl; clear hS1
    replace hSS := hS.sub [0] (by decide) rfl (by simp)
    refine ⟨.inr hSS, ?_⟩
    replace hF := fr_set (b' := true) hF (by rw [decide_eq_true_eq, hv1, hv2 (by omega)])
    refine ha_y 7 hF rfl rfl rfl (wn_none rfl) (.inr hSS) (yl_pick (u := _) (v := undef) hF rfl rfl (fun h => by cases h) (fun _ => rfl)) ?_
    clear hF; intro a hF
    refine ha_y 8 hF rfl rfl rfl (wn_none rfl) (.inr hSS) (yl_move hF rfl rfl) ?_
    clear hF; intro a hF
    refine ha_y 9 hF rfl rfl rfl (wn_t hF rfl rfl rfl rfl) (.inr hSS) (yl_move hF rfl rfl) ?_
    clear hF; intro a hF
    refine ha_y 10 hF rfl rfl rfl (wn_t hF rfl rfl rfl rfl) (.inr hSS) (yl_move hF rfl rfl) ?_
    clear hF; intro a hF
    refine ha_y 11 hF rfl rfl rfl (wn_t hF rfl rfl rfl rfl) (.inr hSS) (yl_bin hF rfl rfl rfl rfl (fun _ => run_neq)) ?_
    clear hF; intro a hF
    replace hF := fr_set (b' := true) hF (by rw [decide_eq_true_eq]; omega)
    refine ha_y 12 hF rfl rfl rfl (wn_t hF rfl rfl rfl rfl) (.inr hSS) (yl_move hF rfl rfl) ?_
    clear hF; intro a hF
    refine ha_s 13 hF rfl rfl rfl (wn_f hF rfl rfl rfl rfl) (.inr hSS) ?_
    clear hF; intro a hF
    refine ha_s 14 hF rfl rfl rfl (wn_f hF rfl rfl rfl rfl) (.inr hSS) ?_
    clear hF; intro a hF
    refine ha_s 15 hF rfl rfl rfl (wn_f hF rfl rfl rfl rfl) (.inr hSS) ?_
    clear hF; intro a hF
    refine ha_s 16 hF rfl rfl rfl (wn_f hF rfl rfl rfl rfl) (.inr hSS) ?_
    clear hF; intro a hF
    refine ha_s 17 hF rfl rfl rfl (wn_u hF rfl rfl rfl rfl) (.inr hSS) ?_
    clear hF; intro a hF
    refine ha_s 18 hF rfl rfl rfl (wn_u hF rfl rfl rfl rfl) (.inr hSS) ?_
    clear hF; intro a hF
    refine ha_s 19 hF rfl rfl rfl (wn_u hF rfl rfl rfl rfl) (.inr hSS) ?_
    clear hF; intro a hF
    refine ha_s 20 hF rfl rfl rfl (wn_u hF rfl rfl rfl rfl) (.inr hSS) ?_
    clear hF; intro a hF
    refine ha_s 21 hF rfl rfl rfl (wn_u hF rfl rfl rfl rfl) (.inr hSS) ?_
    clear hF; intro a hF
    refine ha_s 22 hF rfl rfl rfl (wn_u hF rfl rfl rfl rfl) (.inr hSS) ?_
    clear hF; intro a hF
    refine ha_s 23 hF rfl rfl rfl (wn_u hF rfl rfl rfl rfl) (.inr hSS) ?_
    clear hF; intro a hF
    refine ha_s 24 hF rfl rfl rfl (wn_u hF rfl rfl rfl rfl) (.inr hSS) ?_
    clear hF; intro a hF
    refine ha_s 25 hF rfl rfl rfl (wn_u hF rfl rfl rfl rfl) (.inr hSS) ?_
    clear hF; intro a hF
    refine ha_s 26 hF rfl rfl rfl (wn_f hF rfl rfl rfl rfl) (.inr hSS) ?_
    clear hF; intro a hF
    refine ha_y 27 hF rfl rfl rfl (wn_t hF rfl rfl rfl rfl) (.inr hSS) (yl_pick (u := _) (v := undef) hF rfl rfl (fun _ => rfl) (fun h => by cases h)) ?_
    clear hF; intro a hF
    refine ha_y 28 hF rfl rfl rfl (wn_none rfl) (.inr hSS) (yl_pick (u := _) (v := undef) hF rfl rfl (fun _ => rfl) (fun h => by cases h)) ?_
    clear hF; intro a hF
    refine ha_y 29 hF rfl rfl rfl (wn_none rfl) (.inr hSS) (yl_move hF rfl rfl) ?_
    clear hF; intro a hF
    refine ha_one 30 (by kernel_rfl) rfl (wn_t hF rfl rfl rfl rfl) (wp_call (vs := []) hF rfl rfl rfl rfl cf18 (awake_any _) ?_)
    clear hF; rintro _ w ⟨rfl, hS1⟩ a hF
    replace hS := hS.callB hS1 rfl; clear hS1
    replace hSS := hS.sub [0] (by decide) rfl (by simp)
    refine ⟨.inr hSS, ?_⟩
    refine ha_y 31 hF rfl rfl rfl (wn_none rfl) (.inr hSS) (yl_pick (u := _) (v := undef) hF rfl rfl (fun _ => rfl) (fun h => by cases h)) ?_
    clear hF; intro a hF
    refine ha_y 32 hF rfl rfl rfl (wn_none rfl) (.inr hSS) (yl_assign hF rfl rfl) ?_
    clear hF; intro a hF
    refine ha_done (by kernel_rfl) ?_ _
    refine then_n ?_
    refine wp_ret ?_
    refine ret_t hF rfl rfl ?_
    exact ⟨_, rfl, rfl, (hS.sub [] (by decide) (by first | rfl | simp) (by simp))⟩

end Go.Proofs.Yteidhjdkaaddgaa

/- walks, printed by wip/gen -/
import Derived.Test.YteidhjdkaaddgaaWa
import Derived.Test.YteidhjdkaaddgaaW6
import Derived.Test.YteidhjdkaaddgaaW7
import Derived.Test.YteidhjdkaaddgaaWB
namespace Go.Proofs.Yteidhjdkaaddgaa
open Go.RowKit
set_option linter.unusedVariables false
set_option linter.unusedSimpArgs false

set_option maxHeartbeats 2000000 in
set_option maxRecDepth 100000 in
theorem small_any (v : Value) (L : List Int) (n1 n2 n3 n4 : Int) (fua : Bool) (w0 : World) (hv : Rd w0 1 v (L).length (cells encI (L))) (hL : L.length ≤ 9223372036854775807) :
    Fn Try.prog 8 #[v, .int .i64 n1, .int .i64 n2, .int .i64 n3, .int .i64 n4, .bool fua] w0 (fun v w' => v = .bool true ∧ Sat w0 w' []) := by
  obtain ⟨Av, cv, rfl⟩ := Rd.form hv
  refine c_enter (N := 136) (l := [_, _, _, _, _, _]) Try.func8 rfl rfl (fun a w hF hS => ?_)
  replace hS := hS.addRo hv
  refine c_seq ?_
  refine c_region ?_
  refine seq_yl hF (wn_none rfl) rfl rfl (yl_assign hF rfl rfl) ?_
  clear hF; intro a hF
  refine wpList_nil ?_
  refine then_n ?_
  refine c_seq ?_
  refine c_region ?_
  refine seq_yl hF (wn_none rfl) rfl rfl (yl_move hF rfl rfl) ?_
  clear hF; intro a hF
  refine seq_wp (wn_none rfl) (wp_call (vs := [_]) hF rfl rfl rfl rfl cf11 (drive_any _ L _ (hS.rdRo 0 rfl) (by first | omega | (simp; done) | (simp; omega))) ?_)
  clear hF; rintro _ w ⟨st408, v409, Lq410, rm411, rfl, hd412, hS1⟩ a hF
  replace hS := hS.callB hS1 rfl; clear hS1
  obtain ⟨Av409, cv409, rfl⟩ := hS.form 0 rfl
  obtain ⟨hd412d, hd412s⟩ := hd412; have hd412i := okD_I hd412d
  refine seq_wp (wn_none rfl) (wp_alloc (cs := #[_, _, _]) hF hS rfl rfl rfl zr25 rfl ?_)
  clear hF hS; intro a w g413 hF hS
  refine seq_wp (wn_none rfl) (wp_store (cs' := #[_, _, _]) hF hS rfl rfl rfl rfl 0 rfl sz25 (by simp [Value.cells, Value.oneCell']) (by simp [Value.cells]) rfl ?_)
  clear hF hS; intro a w hF hS
  refine wpList_nil ?_
  refine then_n ?_
  refine c_seq ?_
  refine c_region ?_
  refine seq_yl hF (wn_none rfl) rfl rfl (yl_move hF rfl rfl) ?_
  clear hF; intro a hF
  have hr414 := rnd_any (n1) (8 : Int)
  refine seq_wp (wn_none rfl) (wp_call (vs := [_, _]) hF rfl rfl rfl rfl cf12 (round_any (n1) (8 : Int) _ (by omega)) ?_)
  clear hF; rintro _ w ⟨rfl, hS1⟩ a hF
  replace hS := hS.callB hS1 rfl; clear hS1
  refine seq_yl hF (wn_none rfl) rfl rfl (yl_bin hF rfl rfl rfl rfl (fun _ => run_sub (by refine ⟨?_, ?_⟩ <;> omega))) ?_
  clear hF; intro a hF
  refine seq_yl hF (wn_none rfl) rfl rfl (yl_move hF rfl rfl) ?_
  clear hF; intro a hF
  have hr415 := rnd_any (n2) (4 : Int)
  refine seq_wp (wn_none rfl) (wp_call (vs := [_, _]) hF rfl rfl rfl rfl cf12 (round_any (n2) (4 : Int) _ (by omega)) ?_)
  clear hF; rintro _ w ⟨rfl, hS1⟩ a hF
  replace hS := hS.callB hS1 rfl; clear hS1
  refine seq_yl hF (wn_none rfl) rfl rfl (yl_assign hF rfl rfl) ?_
  clear hF; intro a hF
  refine seq_yl hF (wn_none rfl) rfl rfl (yl_assign hF rfl rfl) ?_
  clear hF; intro a hF
  refine wpList_nil ?_
  refine then_n ?_
  refine c_seq ?_
  refine c_region ?_
  refine seq_yl hF (wn_none rfl) rfl rfl (yl_loadK (rs := [_, _, _]) (fun _ h => h ▸ hS) hF rfl rfl 0 rfl ag25 sz25 rfl rfl) ?_
  clear hF; intro a hF
  refine seq_yl hF (wn_none rfl) rfl rfl (yl_move hF rfl rfl) ?_
  clear hF; intro a hF
  refine seq_yl hF (wn_none rfl) rfl rfl (yl_move hF rfl rfl) ?_
  clear hF; intro a hF
  refine seq_wp (wn_none rfl) (wp_call (vs := [_, _, _]) hF rfl rfl rfl rfl cf20 (read_any st408 _ Lq410 (rm411) ((((rnd (n1) (8 : Int))) - (1 : Int))) ((rnd (n2) (4 : Int))) _ (hS.rdRow 1 rfl) (by first | omega | (simp; done)) (by first | omega | (simp; done))) ?_)
  clear hF; rintro _ w ⟨rfl, hS1⟩ a hF
  replace hS := hS.callB hS1 rfl; clear hS1
  have hz416 := readF_bd st408 Lq410 (rm411) ((((rnd (n1) (8 : Int))) - (1 : Int))) ((rnd (n2) (4 : Int)))
  refine seq_yl hF (wn_none rfl) rfl rfl (yl_move hF rfl rfl) ?_
  clear hF; intro a hF
  refine seq_yl hF (wn_none rfl) rfl rfl (yl_extract hF rfl rfl rfl) ?_
  clear hF; intro a hF
  refine seq_yl hF (wn_none rfl) rfl rfl (yl_extract hF rfl rfl rfl) ?_
  clear hF; intro a hF
  refine seq_yl hF (wn_none rfl) rfl rfl (yl_assign hF rfl rfl) ?_
  clear hF; intro a hF
  refine seq_yl hF (wn_none rfl) rfl rfl (yl_assign hF rfl rfl) ?_
  clear hF; intro a hF
  refine wpList_nil ?_
  refine then_n ?_
  refine c_seq ?_
  refine c_region ?_
  refine seq_yl hF (wn_none rfl) rfl rfl (yl_loadK (rs := [_, _, _]) (fun _ h => h ▸ hS) hF rfl rfl 0 rfl ag25 sz25 rfl rfl) ?_
  clear hF; intro a hF
  refine seq_yl hF (wn_none rfl) rfl rfl (yl_move hF rfl rfl) ?_
  clear hF; intro a hF
  refine seq_yl hF (wn_none rfl) rfl rfl (yl_move hF rfl rfl) ?_
  clear hF; intro a hF
  refine seq_wp (wn_none rfl) (wp_call (vs := [_, _, _]) hF rfl rfl rfl rfl cf23 (read2_any st408 _ Lq410 (rm411) ((((rnd (n1) (8 : Int))) - (1 : Int))) ((rnd (n2) (4 : Int))) _ (hS.rdRow 1 rfl) (by first | omega | (simp; done)) (by first | omega | (simp; done))) ?_)
  clear hF; rintro _ w ⟨rfl, hS1⟩ a hF
  replace hS := hS.callB hS1 rfl; clear hS1
  have hz417 := readF_bd st408 Lq410 (rm411) ((((rnd (n1) (8 : Int))) - (1 : Int))) ((rnd (n2) (4 : Int)))
  refine seq_yl hF (wn_none rfl) rfl rfl (yl_move hF rfl rfl) ?_
  clear hF; intro a hF
  refine seq_yl hF (wn_none rfl) rfl rfl (yl_extract hF rfl rfl rfl) ?_
  clear hF; intro a hF
  refine seq_yl hF (wn_none rfl) rfl rfl (yl_extract hF rfl rfl rfl) ?_
  clear hF; intro a hF
  refine seq_yl hF (wn_none rfl) rfl rfl (yl_assign hF rfl rfl) ?_
  clear hF; intro a hF
  refine seq_yl hF (wn_none rfl) rfl rfl (yl_assign hF rfl rfl) ?_
  clear hF; intro a hF
  refine wpList_nil ?_
  refine then_n ?_
  refine c_seq ?_
  refine c_cut (fun a w => ∃ (st419 : ByteArray) (Lq421 : List E39) (rm422 : Int) (b423 : Bool) (g425 : Nat) (Av420 : Option Addr) (cv420 : Nat), (writeF st408 Lq410 (rm411) ((((rnd (n1) (8 : Int))) - (1 : Int))) (dataF (n4) ((rnd (n2) (4 : Int)))) fua = (st419, Lq421, rm422, b423)) ∧ Fr 136 a [(0, .slice Av (L).length cv), (1, .int .i64 (n1)), (2, .int .i64 (n2)), (3, .int .i64 (n3)), (4, .int .i64 (n4)), (5, .bool fua), (12, .bool false), (13, .pointer (some ⟨g413, 0, none⟩)), (14, .int .i64 ((((rnd (n1) (8 : Int))) - (1 : Int)))), (15, .int .i64 ((rnd (n2) (4 : Int)))), (16, .string (readF st408 Lq410 (rm411) ((((rnd (n1) (8 : Int))) - (1 : Int))) ((rnd (n2) (4 : Int)))).1), (17, .bool (readF st408 Lq410 (rm411) ((((rnd (n1) (8 : Int))) - (1 : Int))) ((rnd (n2) (4 : Int)))).2), (18, .string (readF st408 Lq410 (rm411) ((((rnd (n1) (8 : Int))) - (1 : Int))) ((rnd (n2) (4 : Int)))).1), (19, .bool (readF st408 Lq410 (rm411) ((((rnd (n1) (8 : Int))) - (1 : Int))) ((rnd (n2) (4 : Int)))).2), (20, .pointer (some ⟨g425, 0, none⟩)), (21, .bool b423)] ∧ Sat w0 w (.box g425 25 #[.string st419, .slice Av420 (Lq421).length cv420, .int .i64 (rm422)] :: .row 39 2 (.slice Av420 (Lq421).length cv420) (Lq421).length (cells enc39 (Lq421)) :: .box g413 25 #[.string st408, .slice Av409 (Lq410).length cv409, .int .i64 (rm411)] :: .row 39 2 (.slice Av409 (Lq410).length cv409) (Lq410).length (cells enc39 (Lq410)) :: .ro 1 (.slice Av (L).length cv) (L).length (cells encI (L)) :: [])) ?_ ?_
  · skip
    refine ha_startS hS [0] 13 (by kernel_rfl) ?_; clear hS; intro w hS
    have hSS := hS.sub [0] (by decide) rfl (by simp)
    refine ha_y 1 hF rfl rfl rfl (wn_none rfl) (.inr hSS) (yl_move hF rfl rfl) ?_
    clear hF; intro a hF
    refine ha_y 2 hF rfl rfl rfl (wn_none rfl) (.inr hSS) (yl_move hF rfl rfl) ?_
    clear hF; intro a hF
    refine ha_y 3 hF rfl rfl rfl (wn_none rfl) (.inr hSS) (yl_move hF rfl rfl) ?_
    clear hF; intro a hF
    refine ha_y 5 hF rfl rfl rfl (wn_none rfl) (.inr hSS) (yl_move hF rfl rfl) ?_
    clear hF; intro a hF
    refine ha_l 0 hF rfl rfl rfl (wn_none rfl) hSS (yl_loadK (rs := [_, _, _]) (fun _ h => h) hF rfl rfl 0 rfl ag25 sz25 rfl rfl) ?_
    clear hF; intro a hF
    refine ha_all (rs := [4, 10]) (by kernel_rfl) (by simp) ?_
    refine List.forall_mem_cons.2 ⟨?_, List.forall_mem_cons.2 ⟨?_, (fun _ h => by cases h)⟩⟩
    · skip
      refine ha_op 4 rfl (wn_none rfl) (wp_call (vs := [_, _]) hF rfl rfl rfl rfl cf15 (data_any (n4) ((rnd (n2) (4 : Int))) _ (by omega)) ?_)
      clear hF; rintro _ w ⟨rfl, hS1⟩ a hF
      replace hS := hS.callB hS1 rfl; clear hS1
      have hz426 := dataF_size (n4) ((rnd (n2) (4 : Int)))
      replace hSS := hS.sub [0] (by decide) rfl (by simp)
      refine ⟨.inr hSS, ?_⟩
      refine ha_all (rs := [6, 10]) (by kernel_rfl) (by simp) ?_
      refine List.forall_mem_cons.2 ⟨?_, List.forall_mem_cons.2 ⟨?_, (fun _ h => by cases h)⟩⟩
      · skip
        refine ha_op 6 rfl (wn_none rfl) (wp_call (vs := [_, _, _, _]) hF rfl rfl rfl rfl cf14 (write_any st408 _ Lq410 (rm411) ((((rnd (n1) (8 : Int))) - (1 : Int))) (dataF (n4) ((rnd (n2) (4 : Int)))) fua _ (hS.rdRow 1 rfl) (by first | omega | (simp; done)) (by first | omega | (simp; done)) (by first | omega | (simp; done))) ?_)
        clear hF; rintro _ w ⟨st427, v428, Lq429, rm430, b431, rfl, hq432, hS1⟩ a hF
        replace hS := hS.callB hS1 rfl; clear hS1
        obtain ⟨Av428, cv428, rfl⟩ := hS.form 0 rfl
        have hq432b := writeF_bd hq432
        replace hSS := hS.sub [1] (by decide) rfl (by simp)
        refine ⟨.inr hSS, ?_⟩
        refine ha_y 7 hF rfl rfl rfl (wn_none rfl) (.inr hSS) (yl_move hF rfl rfl) ?_
        clear hF; intro a hF
        refine ha_y 8 hF rfl rfl rfl (wn_none rfl) (.inr hSS) (yl_extract hF rfl rfl rfl) ?_
        clear hF; intro a hF
        refine ha_y 9 hF rfl rfl rfl (wn_none rfl) (.inr hSS) (yl_extract hF rfl rfl rfl) ?_
        clear hF; intro a hF
        refine ha_one 10 (by kernel_rfl) rfl (wn_none rfl) (wp_alloc (cs := #[_, _, _]) hF hS rfl rfl rfl zr25 rfl ?_)
        clear hF hS; intro a w g433 hF hS
        replace hSS := hS.sub [2] (by decide) rfl (by simp)
        refine ⟨.inr hSS, ?_⟩
        refine ha_one 11 (by kernel_rfl) rfl (wn_none rfl) (wp_store (cs' := #[_, _, _]) hF hS rfl rfl rfl rfl 0 rfl sz25 (by simp [Value.cells, Value.oneCell']) (by simp [Value.cells]) rfl ?_)
        clear hF hS; intro a w hF hS
        replace hSS := hS.sub [2] (by decide) rfl (by simp)
        refine ⟨.inr hSS, ?_⟩
        refine ha_y 12 hF rfl rfl rfl (wn_none rfl) (.inr hSS) (yl_assign hF rfl rfl) ?_
        clear hF; intro a hF
        refine ha_done (by kernel_rfl) ?_ _
        refine cut_n ?_
        exact ⟨_, _, _, _, _, _, _, hq432, hF.to [0, 1, 2, 3, 4, 5, 12, 13, 14, 15, 16, 17, 18, 19, 20, 21] rfl, (hS.sub [0, 1, 2, 3, 4] (by decide) (by first | rfl | simp) (by simp))⟩
      · skip
        refine ha_op 10 rfl (wn_none rfl) (wp_alloc (cs := #[_, _, _]) hF hS rfl rfl rfl zr25 rfl ?_)
        clear hF hS; intro a w g434 hF hS
        replace hSS := hS.sub [1] (by decide) rfl (by simp)
        refine ⟨.inr hSS, ?_⟩
        refine ha_one 6 (by kernel_rfl) rfl (wn_none rfl) (wp_call (vs := [_, _, _, _]) hF rfl rfl rfl rfl cf14 (write_any st408 _ Lq410 (rm411) ((((rnd (n1) (8 : Int))) - (1 : Int))) (dataF (n4) ((rnd (n2) (4 : Int)))) fua _ (hS.rdRow 2 rfl) (by first | omega | (simp; done)) (by first | omega | (simp; done)) (by first | omega | (simp; done))) ?_)
        clear hF; rintro _ w ⟨st435, v436, Lq437, rm438, b439, rfl, hq440, hS1⟩ a hF
        replace hS := hS.callB hS1 rfl; clear hS1
        obtain ⟨Av436, cv436, rfl⟩ := hS.form 0 rfl
        have hq440b := writeF_bd hq440
        replace hSS := hS.sub [2] (by decide) rfl (by simp)
        refine ⟨.inr hSS, ?_⟩
        refine ha_y 7 hF rfl rfl rfl (wn_none rfl) (.inr hSS) (yl_move hF rfl rfl) ?_
        clear hF; intro a hF
        refine ha_y 8 hF rfl rfl rfl (wn_none rfl) (.inr hSS) (yl_extract hF rfl rfl rfl) ?_
        clear hF; intro a hF
        refine ha_y 9 hF rfl rfl rfl (wn_none rfl) (.inr hSS) (yl_extract hF rfl rfl rfl) ?_
        clear hF; intro a hF
        refine ha_one 11 (by kernel_rfl) rfl (wn_none rfl) (wp_store (cs' := #[_, _, _]) hF hS rfl rfl rfl rfl 1 rfl sz25 (by simp [Value.cells, Value.oneCell']) (by simp [Value.cells]) rfl ?_)
        clear hF hS; intro a w hF hS
        replace hSS := hS.sub [2] (by decide) rfl (by simp)
        refine ⟨.inr hSS, ?_⟩
        refine ha_y 12 hF rfl rfl rfl (wn_none rfl) (.inr hSS) (yl_assign hF rfl rfl) ?_
        clear hF; intro a hF
        refine ha_done (by kernel_rfl) ?_ _
        refine cut_n ?_
        exact ⟨_, _, _, _, _, _, _, hq440, hF.to [0, 1, 2, 3, 4, 5, 12, 13, 14, 15, 16, 17, 18, 19, 20, 21] rfl, (hS.sub [1, 0, 2, 3, 4] (by decide) (by first | rfl | simp) (by simp))⟩
    · skip
      refine ha_op 10 rfl (wn_none rfl) (wp_alloc (cs := #[_, _, _]) hF hS rfl rfl rfl zr25 rfl ?_)
      clear hF hS; intro a w g441 hF hS
      replace hSS := hS.sub [1] (by decide) rfl (by simp)
      refine ⟨.inr hSS, ?_⟩
      refine ha_one 4 (by kernel_rfl) rfl (wn_none rfl) (wp_call (vs := [_, _]) hF rfl rfl rfl rfl cf15 (data_any (n4) ((rnd (n2) (4 : Int))) _ (by omega)) ?_)
      clear hF; rintro _ w ⟨rfl, hS1⟩ a hF
      replace hS := hS.callB hS1 rfl; clear hS1
      have hz442 := dataF_size (n4) ((rnd (n2) (4 : Int)))
      replace hSS := hS.sub [1] (by decide) rfl (by simp)
      refine ⟨.inr hSS, ?_⟩
      refine ha_one 6 (by kernel_rfl) rfl (wn_none rfl) (wp_call (vs := [_, _, _, _]) hF rfl rfl rfl rfl cf14 (write_any st408 _ Lq410 (rm411) ((((rnd (n1) (8 : Int))) - (1 : Int))) (dataF (n4) ((rnd (n2) (4 : Int)))) fua _ (hS.rdRow 2 rfl) (by first | omega | (simp; done)) (by first | omega | (simp; done)) (by first | omega | (simp; done))) ?_)
      clear hF; rintro _ w ⟨st443, v444, Lq445, rm446, b447, rfl, hq448, hS1⟩ a hF
      replace hS := hS.callB hS1 rfl; clear hS1
      obtain ⟨Av444, cv444, rfl⟩ := hS.form 0 rfl
      have hq448b := writeF_bd hq448
      replace hSS := hS.sub [2] (by decide) rfl (by simp)
      refine ⟨.inr hSS, ?_⟩
      refine ha_y 7 hF rfl rfl rfl (wn_none rfl) (.inr hSS) (yl_move hF rfl rfl) ?_
      clear hF; intro a hF
      refine ha_y 8 hF rfl rfl rfl (wn_none rfl) (.inr hSS) (yl_extract hF rfl rfl rfl) ?_
      clear hF; intro a hF
      refine ha_y 9 hF rfl rfl rfl (wn_none rfl) (.inr hSS) (yl_extract hF rfl rfl rfl) ?_
      clear hF; intro a hF
      refine ha_one 11 (by kernel_rfl) rfl (wn_none rfl) (wp_store (cs' := #[_, _, _]) hF hS rfl rfl rfl rfl 1 rfl sz25 (by simp [Value.cells, Value.oneCell']) (by simp [Value.cells]) rfl ?_)
      clear hF hS; intro a w hF hS
      replace hSS := hS.sub [2] (by decide) rfl (by simp)
      refine ⟨.inr hSS, ?_⟩
      refine ha_y 12 hF rfl rfl rfl (wn_none rfl) (.inr hSS) (yl_assign hF rfl rfl) ?_
      clear hF; intro a hF
      refine ha_done (by kernel_rfl) ?_ _
      refine cut_n ?_
      exact ⟨_, _, _, _, _, _, _, hq448, hF.to [0, 1, 2, 3, 4, 5, 12, 13, 14, 15, 16, 17, 18, 19, 20, 21] rfl, (hS.sub [1, 0, 2, 3, 4] (by decide) (by first | rfl | simp) (by simp))⟩
  clear hF hS
  rintro a w ⟨st419, Lq421, rm422, b423, g425, Av420, cv420, hcut417_0, hF, hS⟩
  have hq424 := hcut417_0; have hq424b := writeF_bd hq424
  refine then_n ?_
  refine c_seq ?_
  refine c_cut (fun a w => ∃ (g456 : Nat) (Av451 : Option Addr) (cv451 : Nat), (writeF st408 Lq410 (rm411) ((((rnd (n1) (8 : Int))) - (1 : Int))) (dataF (n4) ((rnd (n2) (4 : Int)))) fua = (st419, Lq421, rm422, b423)) ∧ Fr 136 a [(0, .slice Av (L).length cv), (1, .int .i64 (n1)), (2, .int .i64 (n2)), (3, .int .i64 (n3)), (4, .int .i64 (n4)), (5, .bool fua), (12, .bool false), (13, .pointer (some ⟨g413, 0, none⟩)), (14, .int .i64 ((((rnd (n1) (8 : Int))) - (1 : Int)))), (15, .int .i64 ((rnd (n2) (4 : Int)))), (16, .string (readF st408 Lq410 (rm411) ((((rnd (n1) (8 : Int))) - (1 : Int))) ((rnd (n2) (4 : Int)))).1), (17, .bool (readF st408 Lq410 (rm411) ((((rnd (n1) (8 : Int))) - (1 : Int))) ((rnd (n2) (4 : Int)))).2), (18, .string (readF st408 Lq410 (rm411) ((((rnd (n1) (8 : Int))) - (1 : Int))) ((rnd (n2) (4 : Int)))).1), (19, .bool (readF st408 Lq410 (rm411) ((((rnd (n1) (8 : Int))) - (1 : Int))) ((rnd (n2) (4 : Int)))).2), (20, .pointer (some ⟨g425, 0, none⟩)), (21, .bool b423), (22, .pointer (some ⟨g456, 0, none⟩)), (23, .bool b423)] ∧ Sat w0 w (.box g456 25 #[.string st419, .slice Av451 (Lq421).length cv451, .int .i64 (rm422)] :: .row 39 2 (.slice Av451 (Lq421).length cv451) (Lq421).length (cells enc39 (Lq421)) :: .box g425 25 #[.string st419, .slice Av420 (Lq421).length cv420, .int .i64 (rm422)] :: .row 39 2 (.slice Av420 (Lq421).length cv420) (Lq421).length (cells enc39 (Lq421)) :: .box g413 25 #[.string st408, .slice Av409 (Lq410).length cv409, .int .i64 (rm411)] :: .row 39 2 (.slice Av409 (Lq410).length cv409) (Lq410).length (cells enc39 (Lq410)) :: .ro 1 (.slice Av (L).length cv) (L).length (cells encI (L)) :: [])) ?_ ?_
  · skip
    refine ha_startS hS [2] 13 (by kernel_rfl) ?_; clear hS; intro w hS
    have hSS := hS.sub [2] (by decide) rfl (by simp)
    refine ha_y 1 hF rfl rfl rfl (wn_none rfl) (.inr hSS) (yl_move hF rfl rfl) ?_
    clear hF; intro a hF
    refine ha_y 2 hF rfl rfl rfl (wn_none rfl) (.inr hSS) (yl_move hF rfl rfl) ?_
    clear hF; intro a hF
    refine ha_y 3 hF rfl rfl rfl (wn_none rfl) (.inr hSS) (yl_move hF rfl rfl) ?_
    clear hF; intro a hF
    refine ha_y 5 hF rfl rfl rfl (wn_none rfl) (.inr hSS) (yl_move hF rfl rfl) ?_
    clear hF; intro a hF
    refine ha_l 0 hF rfl rfl rfl (wn_none rfl) hSS (yl_loadK (rs := [_, _, _]) (fun _ h => h) hF rfl rfl 0 rfl ag25 sz25 rfl rfl) ?_
    clear hF; intro a hF
    refine ha_all (rs := [4, 10]) (by kernel_rfl) (by simp) ?_
    refine List.forall_mem_cons.2 ⟨?_, List.forall_mem_cons.2 ⟨?_, (fun _ h => by cases h)⟩⟩
    · skip
      refine ha_op 4 rfl (wn_none rfl) (wp_call (vs := [_, _]) hF rfl rfl rfl rfl cf15 (data_any (n4) ((rnd (n2) (4 : Int))) _ (by omega)) ?_)
      clear hF; rintro _ w ⟨rfl, hS1⟩ a hF
      replace hS := hS.callB hS1 rfl; clear hS1
      have hz457 := dataF_size (n4) ((rnd (n2) (4 : Int)))
      replace hSS := hS.sub [2] (by decide) rfl (by simp)
      refine ⟨.inr hSS, ?_⟩
      refine ha_all (rs := [6, 10]) (by kernel_rfl) (by simp) ?_
      refine List.forall_mem_cons.2 ⟨?_, List.forall_mem_cons.2 ⟨?_, (fun _ h => by cases h)⟩⟩
      · skip
        refine ha_op 6 rfl (wn_none rfl) (wp_call (vs := [_, _, _, _]) hF rfl rfl rfl rfl cf24 (write2_any st408 _ Lq410 (rm411) ((((rnd (n1) (8 : Int))) - (1 : Int))) (dataF (n4) ((rnd (n2) (4 : Int)))) fua _ (hS.rdRow 3 rfl) (by first | omega | (simp; done)) (by first | omega | (simp; done)) (by first | omega | (simp; done))) ?_)
        clear hF; rintro _ w ⟨st458, v459, Lq460, rm461, b462, rfl, hq463, hS1⟩ a hF
        replace hS := hS.callB hS1 rfl; clear hS1
        obtain ⟨Av459, cv459, rfl⟩ := hS.form 0 rfl
        have hq463b := writeF_bd hq463
        have h8 := hq424.symm.trans hq463; injection h8 with e1 h8; injection h8 with e2 h8; injection h8 with e3 e4; subst e1 e2 e3 e4
        replace hSS := hS.sub [3] (by decide) rfl (by simp)
        refine ⟨.inr hSS, ?_⟩
        refine ha_y 7 hF rfl rfl rfl (wn_none rfl) (.inr hSS) (yl_move hF rfl rfl) ?_
        clear hF; intro a hF
        refine ha_y 8 hF rfl rfl rfl (wn_none rfl) (.inr hSS) (yl_extract hF rfl rfl rfl) ?_
        clear hF; intro a hF
        refine ha_y 9 hF rfl rfl rfl (wn_none rfl) (.inr hSS) (yl_extract hF rfl rfl rfl) ?_
        clear hF; intro a hF
        refine ha_one 10 (by kernel_rfl) rfl (wn_none rfl) (wp_alloc (cs := #[_, _, _]) hF hS rfl rfl rfl zr25 rfl ?_)
        clear hF hS; intro a w g464 hF hS
        replace hSS := hS.sub [4] (by decide) rfl (by simp)
        refine ⟨.inr hSS, ?_⟩
        refine ha_one 11 (by kernel_rfl) rfl (wn_none rfl) (wp_store (cs' := #[_, _, _]) hF hS rfl rfl rfl rfl 0 rfl sz25 (by simp [Value.cells, Value.oneCell']) (by simp [Value.cells]) rfl ?_)
        clear hF hS; intro a w hF hS
        replace hSS := hS.sub [4] (by decide) rfl (by simp)
        refine ⟨.inr hSS, ?_⟩
        refine ha_y 12 hF rfl rfl rfl (wn_none rfl) (.inr hSS) (yl_assign hF rfl rfl) ?_
        clear hF; intro a hF
        refine ha_done (by kernel_rfl) ?_ _
        refine cut_n ?_
        exact ⟨_, _, _, hq463, hF.to [0, 1, 2, 3, 4, 5, 12, 13, 14, 15, 16, 17, 18, 19, 20, 21, 22, 23] rfl, (hS.sub [0, 1, 2, 3, 4, 5, 6] (by decide) (by first | rfl | simp) (by simp))⟩
      · skip
        refine ha_op 10 rfl (wn_none rfl) (wp_alloc (cs := #[_, _, _]) hF hS rfl rfl rfl zr25 rfl ?_)
        clear hF hS; intro a w g465 hF hS
        replace hSS := hS.sub [3] (by decide) rfl (by simp)
        refine ⟨.inr hSS, ?_⟩
        refine ha_one 6 (by kernel_rfl) rfl (wn_none rfl) (wp_call (vs := [_, _, _, _]) hF rfl rfl rfl rfl cf24 (write2_any st408 _ Lq410 (rm411) ((((rnd (n1) (8 : Int))) - (1 : Int))) (dataF (n4) ((rnd (n2) (4 : Int)))) fua _ (hS.rdRow 4 rfl) (by first | omega | (simp; done)) (by first | omega | (simp; done)) (by first | omega | (simp; done))) ?_)
        clear hF; rintro _ w ⟨st466, v467, Lq468, rm469, b470, rfl, hq471, hS1⟩ a hF
        replace hS := hS.callB hS1 rfl; clear hS1
        obtain ⟨Av467, cv467, rfl⟩ := hS.form 0 rfl
        have hq471b := writeF_bd hq471
        have h8 := hq424.symm.trans hq471; injection h8 with e1 h8; injection h8 with e2 h8; injection h8 with e3 e4; subst e1 e2 e3 e4
        replace hSS := hS.sub [4] (by decide) rfl (by simp)
        refine ⟨.inr hSS, ?_⟩
        refine ha_y 7 hF rfl rfl rfl (wn_none rfl) (.inr hSS) (yl_move hF rfl rfl) ?_
        clear hF; intro a hF
        refine ha_y 8 hF rfl rfl rfl (wn_none rfl) (.inr hSS) (yl_extract hF rfl rfl rfl) ?_
        clear hF; intro a hF
        refine ha_y 9 hF rfl rfl rfl (wn_none rfl) (.inr hSS) (yl_extract hF rfl rfl rfl) ?_
        clear hF; intro a hF
        refine ha_one 11 (by kernel_rfl) rfl (wn_none rfl) (wp_store (cs' := #[_, _, _]) hF hS rfl rfl rfl rfl 1 rfl sz25 (by simp [Value.cells, Value.oneCell']) (by simp [Value.cells]) rfl ?_)
        clear hF hS; intro a w hF hS
        replace hSS := hS.sub [4] (by decide) rfl (by simp)
        refine ⟨.inr hSS, ?_⟩
        refine ha_y 12 hF rfl rfl rfl (wn_none rfl) (.inr hSS) (yl_assign hF rfl rfl) ?_
        clear hF; intro a hF
        refine ha_done (by kernel_rfl) ?_ _
        refine cut_n ?_
        exact ⟨_, _, _, hq471, hF.to [0, 1, 2, 3, 4, 5, 12, 13, 14, 15, 16, 17, 18, 19, 20, 21, 22, 23] rfl, (hS.sub [1, 0, 2, 3, 4, 5, 6] (by decide) (by first | rfl | simp) (by simp))⟩
    · skip
      refine ha_op 10 rfl (wn_none rfl) (wp_alloc (cs := #[_, _, _]) hF hS rfl rfl rfl zr25 rfl ?_)
      clear hF hS; intro a w g472 hF hS
      replace hSS := hS.sub [3] (by decide) rfl (by simp)
      refine ⟨.inr hSS, ?_⟩
      refine ha_one 4 (by kernel_rfl) rfl (wn_none rfl) (wp_call (vs := [_, _]) hF rfl rfl rfl rfl cf15 (data_any (n4) ((rnd (n2) (4 : Int))) _ (by omega)) ?_)
      clear hF; rintro _ w ⟨rfl, hS1⟩ a hF
      replace hS := hS.callB hS1 rfl; clear hS1
      have hz473 := dataF_size (n4) ((rnd (n2) (4 : Int)))
      replace hSS := hS.sub [3] (by decide) rfl (by simp)
      refine ⟨.inr hSS, ?_⟩
      refine ha_one 6 (by kernel_rfl) rfl (wn_none rfl) (wp_call (vs := [_, _, _, _]) hF rfl rfl rfl rfl cf24 (write2_any st408 _ Lq410 (rm411) ((((rnd (n1) (8 : Int))) - (1 : Int))) (dataF (n4) ((rnd (n2) (4 : Int)))) fua _ (hS.rdRow 4 rfl) (by first | omega | (simp; done)) (by first | omega | (simp; done)) (by first | omega | (simp; done))) ?_)
      clear hF; rintro _ w ⟨st474, v475, Lq476, rm477, b478, rfl, hq479, hS1⟩ a hF
      replace hS := hS.callB hS1 rfl; clear hS1
      obtain ⟨Av475, cv475, rfl⟩ := hS.form 0 rfl
      have hq479b := writeF_bd hq479
      have h8 := hq424.symm.trans hq479; injection h8 with e1 h8; injection h8 with e2 h8; injection h8 with e3 e4; subst e1 e2 e3 e4
      replace hSS := hS.sub [4] (by decide) rfl (by simp)
      refine ⟨.inr hSS, ?_⟩
      refine ha_y 7 hF rfl rfl rfl (wn_none rfl) (.inr hSS) (yl_move hF rfl rfl) ?_
      clear hF; intro a hF
      refine ha_y 8 hF rfl rfl rfl (wn_none rfl) (.inr hSS) (yl_extract hF rfl rfl rfl) ?_
      clear hF; intro a hF
      refine ha_y 9 hF rfl rfl rfl (wn_none rfl) (.inr hSS) (yl_extract hF rfl rfl rfl) ?_
      clear hF; intro a hF
      refine ha_one 11 (by kernel_rfl) rfl (wn_none rfl) (wp_store (cs' := #[_, _, _]) hF hS rfl rfl rfl rfl 1 rfl sz25 (by simp [Value.cells, Value.oneCell']) (by simp [Value.cells]) rfl ?_)
      clear hF hS; intro a w hF hS
      replace hSS := hS.sub [4] (by decide) rfl (by simp)
      refine ⟨.inr hSS, ?_⟩
      refine ha_y 12 hF rfl rfl rfl (wn_none rfl) (.inr hSS) (yl_assign hF rfl rfl) ?_
      clear hF; intro a hF
      refine ha_done (by kernel_rfl) ?_ _
      refine cut_n ?_
      exact ⟨_, _, _, hq479, hF.to [0, 1, 2, 3, 4, 5, 12, 13, 14, 15, 16, 17, 18, 19, 20, 21, 22, 23] rfl, (hS.sub [1, 0, 2, 3, 4, 5, 6] (by decide) (by first | rfl | simp) (by simp))⟩
  clear hF hS
  rintro a w ⟨g456, Av451, cv451, hcut448_0, hF, hS⟩
  have hq455 := hcut448_0; have hq455b := writeF_bd hq455
  refine then_n ?_
  refine c_seq ?_
  refine c_cut (fun a w => ∃ (st481 : ByteArray) (Lq483 : List E39) (rm484 : Int) (b485 : Bool) (g487 : Nat) (Av482 : Option Addr) (cv482 : Nat), (destF st408 Lq410 (rm411) ((((rnd (n3) (6 : Int))) - (1 : Int))) = (st481, Lq483, rm484, b485)) ∧ Fr 136 a [(0, .slice Av (L).length cv), (1, .int .i64 (n1)), (2, .int .i64 (n2)), (3, .int .i64 (n3)), (4, .int .i64 (n4)), (5, .bool fua), (12, .bool false), (13, .pointer (some ⟨g413, 0, none⟩)), (14, .int .i64 ((((rnd (n1) (8 : Int))) - (1 : Int)))), (15, .int .i64 ((rnd (n2) (4 : Int)))), (16, .string (readF st408 Lq410 (rm411) ((((rnd (n1) (8 : Int))) - (1 : Int))) ((rnd (n2) (4 : Int)))).1), (17, .bool (readF st408 Lq410 (rm411) ((((rnd (n1) (8 : Int))) - (1 : Int))) ((rnd (n2) (4 : Int)))).2), (18, .string (readF st408 Lq410 (rm411) ((((rnd (n1) (8 : Int))) - (1 : Int))) ((rnd (n2) (4 : Int)))).1), (19, .bool (readF st408 Lq410 (rm411) ((((rnd (n1) (8 : Int))) - (1 : Int))) ((rnd (n2) (4 : Int)))).2), (20, .pointer (some ⟨g425, 0, none⟩)), (21, .bool b423), (22, .pointer (some ⟨g456, 0, none⟩)), (23, .bool b423), (24, .pointer (some ⟨g487, 0, none⟩)), (25, .bool b485)] ∧ Sat w0 w (.box g487 25 #[.string st481, .slice Av482 (Lq483).length cv482, .int .i64 (rm484)] :: .row 39 2 (.slice Av482 (Lq483).length cv482) (Lq483).length (cells enc39 (Lq483)) :: .box g456 25 #[.string st419, .slice Av451 (Lq421).length cv451, .int .i64 (rm422)] :: .row 39 2 (.slice Av451 (Lq421).length cv451) (Lq421).length (cells enc39 (Lq421)) :: .box g425 25 #[.string st419, .slice Av420 (Lq421).length cv420, .int .i64 (rm422)] :: .row 39 2 (.slice Av420 (Lq421).length cv420) (Lq421).length (cells enc39 (Lq421)) :: .box g413 25 #[.string st408, .slice Av409 (Lq410).length cv409, .int .i64 (rm411)] :: .row 39 2 (.slice Av409 (Lq410).length cv409) (Lq410).length (cells enc39 (Lq410)) :: .ro 1 (.slice Av (L).length cv) (L).length (cells encI (L)) :: [])) ?_ ?_
  · skip
    refine ha_startS hS [4] 11 (by kernel_rfl) ?_; clear hS; intro w hS
    have hSS := hS.sub [4] (by decide) rfl (by simp)
    refine ha_y 1 hF rfl rfl rfl (wn_none rfl) (.inr hSS) (yl_move hF rfl rfl) ?_
    clear hF; intro a hF
    refine ha_l 0 hF rfl rfl rfl (wn_none rfl) hSS (yl_loadK (rs := [_, _, _]) (fun _ h => h) hF rfl rfl 0 rfl ag25 sz25 rfl rfl) ?_
    clear hF; intro a hF
    refine ha_all (rs := [2, 8]) (by kernel_rfl) (by simp) ?_
    refine List.forall_mem_cons.2 ⟨?_, List.forall_mem_cons.2 ⟨?_, (fun _ h => by cases h)⟩⟩
    · skip
      have hr488 := rnd_any (n3) (6 : Int)
      refine ha_op 2 rfl (wn_none rfl) (wp_call (vs := [_, _]) hF rfl rfl rfl rfl cf12 (round_any (n3) (6 : Int) _ (by omega)) ?_)
      clear hF; rintro _ w ⟨rfl, hS1⟩ a hF
      replace hS := hS.callB hS1 rfl; clear hS1
      replace hSS := hS.sub [4] (by decide) rfl (by simp)
      refine ⟨.inr hSS, ?_⟩
      refine ha_y 3 hF rfl rfl rfl (wn_none rfl) (.inr hSS) (yl_bin hF rfl rfl rfl rfl (fun _ => run_sub (by refine ⟨?_, ?_⟩ <;> omega))) ?_
      clear hF; intro a hF
      refine ha_all (rs := [4, 8]) (by kernel_rfl) (by simp) ?_
      refine List.forall_mem_cons.2 ⟨?_, List.forall_mem_cons.2 ⟨?_, (fun _ h => by cases h)⟩⟩
      · skip
        refine ha_op 4 rfl (wn_none rfl) (wp_call (vs := [_, _]) hF rfl rfl rfl rfl cf19 (dest_any st408 _ Lq410 (rm411) ((((rnd (n3) (6 : Int))) - (1 : Int))) _ (hS.rdRow 5 rfl) (by first | omega | (simp; done)) (by first | omega | (simp; done))) ?_)
        clear hF; rintro _ w ⟨st489, v490, Lq491, rm492, b493, rfl, hq494, hS1⟩ a hF
        replace hS := hS.callB hS1 rfl; clear hS1
        obtain ⟨Av490, cv490, rfl⟩ := hS.form 0 rfl
        have hq494b := destF_bd hq494
        replace hSS := hS.sub [5] (by decide) rfl (by simp)
        refine ⟨.inr hSS, ?_⟩
        refine ha_y 5 hF rfl rfl rfl (wn_none rfl) (.inr hSS) (yl_move hF rfl rfl) ?_
        clear hF; intro a hF
        refine ha_y 6 hF rfl rfl rfl (wn_none rfl) (.inr hSS) (yl_extract hF rfl rfl rfl) ?_
        clear hF; intro a hF
        refine ha_y 7 hF rfl rfl rfl (wn_none rfl) (.inr hSS) (yl_extract hF rfl rfl rfl) ?_
        clear hF; intro a hF
        refine ha_one 8 (by kernel_rfl) rfl (wn_none rfl) (wp_alloc (cs := #[_, _, _]) hF hS rfl rfl rfl zr25 rfl ?_)
        clear hF hS; intro a w g495 hF hS
        replace hSS := hS.sub [6] (by decide) rfl (by simp)
        refine ⟨.inr hSS, ?_⟩
        refine ha_one 9 (by kernel_rfl) rfl (wn_none rfl) (wp_store (cs' := #[_, _, _]) hF hS rfl rfl rfl rfl 0 rfl sz25 (by simp [Value.cells, Value.oneCell']) (by simp [Value.cells]) rfl ?_)
        clear hF hS; intro a w hF hS
        replace hSS := hS.sub [6] (by decide) rfl (by simp)
        refine ⟨.inr hSS, ?_⟩
        refine ha_y 10 hF rfl rfl rfl (wn_none rfl) (.inr hSS) (yl_assign hF rfl rfl) ?_
        clear hF; intro a hF
        refine ha_done (by kernel_rfl) ?_ _
        refine cut_n ?_
        exact ⟨_, _, _, _, _, _, _, hq494, hF.to [0, 1, 2, 3, 4, 5, 12, 13, 14, 15, 16, 17, 18, 19, 20, 21, 22, 23, 24, 25] rfl, (hS.sub [0, 1, 2, 3, 4, 5, 6, 7, 8] (by decide) (by first | rfl | simp) (by simp))⟩
      · skip
        refine ha_op 8 rfl (wn_none rfl) (wp_alloc (cs := #[_, _, _]) hF hS rfl rfl rfl zr25 rfl ?_)
        clear hF hS; intro a w g496 hF hS
        replace hSS := hS.sub [5] (by decide) rfl (by simp)
        refine ⟨.inr hSS, ?_⟩
        refine ha_one 4 (by kernel_rfl) rfl (wn_none rfl) (wp_call (vs := [_, _]) hF rfl rfl rfl rfl cf19 (dest_any st408 _ Lq410 (rm411) ((((rnd (n3) (6 : Int))) - (1 : Int))) _ (hS.rdRow 6 rfl) (by first | omega | (simp; done)) (by first | omega | (simp; done))) ?_)
        clear hF; rintro _ w ⟨st497, v498, Lq499, rm500, b501, rfl, hq502, hS1⟩ a hF
        replace hS := hS.callB hS1 rfl; clear hS1
        obtain ⟨Av498, cv498, rfl⟩ := hS.form 0 rfl
        have hq502b := destF_bd hq502
        replace hSS := hS.sub [6] (by decide) rfl (by simp)
        refine ⟨.inr hSS, ?_⟩
        refine ha_y 5 hF rfl rfl rfl (wn_none rfl) (.inr hSS) (yl_move hF rfl rfl) ?_
        clear hF; intro a hF
        refine ha_y 6 hF rfl rfl rfl (wn_none rfl) (.inr hSS) (yl_extract hF rfl rfl rfl) ?_
        clear hF; intro a hF
        refine ha_y 7 hF rfl rfl rfl (wn_none rfl) (.inr hSS) (yl_extract hF rfl rfl rfl) ?_
        clear hF; intro a hF
        refine ha_one 9 (by kernel_rfl) rfl (wn_none rfl) (wp_store (cs' := #[_, _, _]) hF hS rfl rfl rfl rfl 1 rfl sz25 (by simp [Value.cells, Value.oneCell']) (by simp [Value.cells]) rfl ?_)
        clear hF hS; intro a w hF hS
        replace hSS := hS.sub [6] (by decide) rfl (by simp)
        refine ⟨.inr hSS, ?_⟩
        refine ha_y 10 hF rfl rfl rfl (wn_none rfl) (.inr hSS) (yl_assign hF rfl rfl) ?_
        clear hF; intro a hF
        refine ha_done (by kernel_rfl) ?_ _
        refine cut_n ?_
        exact ⟨_, _, _, _, _, _, _, hq502, hF.to [0, 1, 2, 3, 4, 5, 12, 13, 14, 15, 16, 17, 18, 19, 20, 21, 22, 23, 24, 25] rfl, (hS.sub [1, 0, 2, 3, 4, 5, 6, 7, 8] (by decide) (by first | rfl | simp) (by simp))⟩
    · skip
      refine ha_op 8 rfl (wn_none rfl) (wp_alloc (cs := #[_, _, _]) hF hS rfl rfl rfl zr25 rfl ?_)
      clear hF hS; intro a w g503 hF hS
      replace hSS := hS.sub [5] (by decide) rfl (by simp)
      refine ⟨.inr hSS, ?_⟩
      have hr504 := rnd_any (n3) (6 : Int)
      refine ha_one 2 (by kernel_rfl) rfl (wn_none rfl) (wp_call (vs := [_, _]) hF rfl rfl rfl rfl cf12 (round_any (n3) (6 : Int) _ (by omega)) ?_)
      clear hF; rintro _ w ⟨rfl, hS1⟩ a hF
      replace hS := hS.callB hS1 rfl; clear hS1
      replace hSS := hS.sub [5] (by decide) rfl (by simp)
      refine ⟨.inr hSS, ?_⟩
      refine ha_y 3 hF rfl rfl rfl (wn_none rfl) (.inr hSS) (yl_bin hF rfl rfl rfl rfl (fun _ => run_sub (by refine ⟨?_, ?_⟩ <;> omega))) ?_
      clear hF; intro a hF
      refine ha_one 4 (by kernel_rfl) rfl (wn_none rfl) (wp_call (vs := [_, _]) hF rfl rfl rfl rfl cf19 (dest_any st408 _ Lq410 (rm411) ((((rnd (n3) (6 : Int))) - (1 : Int))) _ (hS.rdRow 6 rfl) (by first | omega | (simp; done)) (by first | omega | (simp; done))) ?_)
      clear hF; rintro _ w ⟨st505, v506, Lq507, rm508, b509, rfl, hq510, hS1⟩ a hF
      replace hS := hS.callB hS1 rfl; clear hS1
      obtain ⟨Av506, cv506, rfl⟩ := hS.form 0 rfl
      have hq510b := destF_bd hq510
      replace hSS := hS.sub [6] (by decide) rfl (by simp)
      refine ⟨.inr hSS, ?_⟩
      refine ha_y 5 hF rfl rfl rfl (wn_none rfl) (.inr hSS) (yl_move hF rfl rfl) ?_
      clear hF; intro a hF
      refine ha_y 6 hF rfl rfl rfl (wn_none rfl) (.inr hSS) (yl_extract hF rfl rfl rfl) ?_
      clear hF; intro a hF
      refine ha_y 7 hF rfl rfl rfl (wn_none rfl) (.inr hSS) (yl_extract hF rfl rfl rfl) ?_
      clear hF; intro a hF
      refine ha_one 9 (by kernel_rfl) rfl (wn_none rfl) (wp_store (cs' := #[_, _, _]) hF hS rfl rfl rfl rfl 1 rfl sz25 (by simp [Value.cells, Value.oneCell']) (by simp [Value.cells]) rfl ?_)
      clear hF hS; intro a w hF hS
      replace hSS := hS.sub [6] (by decide) rfl (by simp)
      refine ⟨.inr hSS, ?_⟩
      refine ha_y 10 hF rfl rfl rfl (wn_none rfl) (.inr hSS) (yl_assign hF rfl rfl) ?_
      clear hF; intro a hF
      refine ha_done (by kernel_rfl) ?_ _
      refine cut_n ?_
      exact ⟨_, _, _, _, _, _, _, hq510, hF.to [0, 1, 2, 3, 4, 5, 12, 13, 14, 15, 16, 17, 18, 19, 20, 21, 22, 23, 24, 25] rfl, (hS.sub [1, 0, 2, 3, 4, 5, 6, 7, 8] (by decide) (by first | rfl | simp) (by simp))⟩
  clear hF hS
  rintro a w ⟨st481, Lq483, rm484, b485, g487, Av482, cv482, hcut479_0, hF, hS⟩
  have hq486 := hcut479_0; have hq486b := destF_bd hq486
  refine then_n ?_
  refine c_seq ?_
  refine c_cut (fun a w => ∃ (g518 : Nat) (Av513 : Option Addr) (cv513 : Nat), (destF st408 Lq410 (rm411) ((((rnd (n3) (6 : Int))) - (1 : Int))) = (st481, Lq483, rm484, b485)) ∧ Fr 136 a [(0, .slice Av (L).length cv), (1, .int .i64 (n1)), (2, .int .i64 (n2)), (3, .int .i64 (n3)), (4, .int .i64 (n4)), (5, .bool fua), (12, .bool false), (13, .pointer (some ⟨g413, 0, none⟩)), (14, .int .i64 ((((rnd (n1) (8 : Int))) - (1 : Int)))), (15, .int .i64 ((rnd (n2) (4 : Int)))), (16, .string (readF st408 Lq410 (rm411) ((((rnd (n1) (8 : Int))) - (1 : Int))) ((rnd (n2) (4 : Int)))).1), (17, .bool (readF st408 Lq410 (rm411) ((((rnd (n1) (8 : Int))) - (1 : Int))) ((rnd (n2) (4 : Int)))).2), (18, .string (readF st408 Lq410 (rm411) ((((rnd (n1) (8 : Int))) - (1 : Int))) ((rnd (n2) (4 : Int)))).1), (19, .bool (readF st408 Lq410 (rm411) ((((rnd (n1) (8 : Int))) - (1 : Int))) ((rnd (n2) (4 : Int)))).2), (20, .pointer (some ⟨g425, 0, none⟩)), (21, .bool b423), (22, .pointer (some ⟨g456, 0, none⟩)), (23, .bool b423), (24, .pointer (some ⟨g487, 0, none⟩)), (25, .bool b485), (26, .pointer (some ⟨g518, 0, none⟩)), (27, .bool b485)] ∧ Sat w0 w (.box g518 25 #[.string st481, .slice Av513 (Lq483).length cv513, .int .i64 (rm484)] :: .row 39 2 (.slice Av513 (Lq483).length cv513) (Lq483).length (cells enc39 (Lq483)) :: .box g487 25 #[.string st481, .slice Av482 (Lq483).length cv482, .int .i64 (rm484)] :: .row 39 2 (.slice Av482 (Lq483).length cv482) (Lq483).length (cells enc39 (Lq483)) :: .box g456 25 #[.string st419, .slice Av451 (Lq421).length cv451, .int .i64 (rm422)] :: .row 39 2 (.slice Av451 (Lq421).length cv451) (Lq421).length (cells enc39 (Lq421)) :: .box g425 25 #[.string st419, .slice Av420 (Lq421).length cv420, .int .i64 (rm422)] :: .row 39 2 (.slice Av420 (Lq421).length cv420) (Lq421).length (cells enc39 (Lq421)) :: .box g413 25 #[.string st408, .slice Av409 (Lq410).length cv409, .int .i64 (rm411)] :: .row 39 2 (.slice Av409 (Lq410).length cv409) (Lq410).length (cells enc39 (Lq410)) :: .ro 1 (.slice Av (L).length cv) (L).length (cells encI (L)) :: [])) ?_ ?_
  · skip
    refine ha_startS hS [6] 11 (by kernel_rfl) ?_; clear hS; intro w hS
    have hSS := hS.sub [6] (by decide) rfl (by simp)
    refine ha_y 1 hF rfl rfl rfl (wn_none rfl) (.inr hSS) (yl_move hF rfl rfl) ?_
    clear hF; intro a hF
    refine ha_l 0 hF rfl rfl rfl (wn_none rfl) hSS (yl_loadK (rs := [_, _, _]) (fun _ h => h) hF rfl rfl 0 rfl ag25 sz25 rfl rfl) ?_
    clear hF; intro a hF
    refine ha_all (rs := [2, 8]) (by kernel_rfl) (by simp) ?_
    refine List.forall_mem_cons.2 ⟨?_, List.forall_mem_cons.2 ⟨?_, (fun _ h => by cases h)⟩⟩
    · skip
      have hr519 := rnd_any (n3) (6 : Int)
      refine ha_op 2 rfl (wn_none rfl) (wp_call (vs := [_, _]) hF rfl rfl rfl rfl cf12 (round_any (n3) (6 : Int) _ (by omega)) ?_)
      clear hF; rintro _ w ⟨rfl, hS1⟩ a hF
      replace hS := hS.callB hS1 rfl; clear hS1
      replace hSS := hS.sub [6] (by decide) rfl (by simp)
      refine ⟨.inr hSS, ?_⟩
      refine ha_y 3 hF rfl rfl rfl (wn_none rfl) (.inr hSS) (yl_bin hF rfl rfl rfl rfl (fun _ => run_sub (by refine ⟨?_, ?_⟩ <;> omega))) ?_
      clear hF; intro a hF
      refine ha_all (rs := [4, 8]) (by kernel_rfl) (by simp) ?_
      refine List.forall_mem_cons.2 ⟨?_, List.forall_mem_cons.2 ⟨?_, (fun _ h => by cases h)⟩⟩
      · skip
        refine ha_op 4 rfl (wn_none rfl) (wp_call (vs := [_, _]) hF rfl rfl rfl rfl cf25 (dest2_any st408 _ Lq410 (rm411) ((((rnd (n3) (6 : Int))) - (1 : Int))) _ (hS.rdRow 7 rfl) (by first | omega | (simp; done)) (by first | omega | (simp; done))) ?_)
        clear hF; rintro _ w ⟨st520, v521, Lq522, rm523, b524, rfl, hq525, hS1⟩ a hF
        replace hS := hS.callB hS1 rfl; clear hS1
        obtain ⟨Av521, cv521, rfl⟩ := hS.form 0 rfl
        have hq525b := destF_bd hq525
        have h8 := hq486.symm.trans hq525; injection h8 with e1 h8; injection h8 with e2 h8; injection h8 with e3 e4; subst e1 e2 e3 e4
        replace hSS := hS.sub [7] (by decide) rfl (by simp)
        refine ⟨.inr hSS, ?_⟩
        refine ha_y 5 hF rfl rfl rfl (wn_none rfl) (.inr hSS) (yl_move hF rfl rfl) ?_
        clear hF; intro a hF
        refine ha_y 6 hF rfl rfl rfl (wn_none rfl) (.inr hSS) (yl_extract hF rfl rfl rfl) ?_
        clear hF; intro a hF
        refine ha_y 7 hF rfl rfl rfl (wn_none rfl) (.inr hSS) (yl_extract hF rfl rfl rfl) ?_
        clear hF; intro a hF
        refine ha_one 8 (by kernel_rfl) rfl (wn_none rfl) (wp_alloc (cs := #[_, _, _]) hF hS rfl rfl rfl zr25 rfl ?_)
        clear hF hS; intro a w g526 hF hS
        replace hSS := hS.sub [8] (by decide) rfl (by simp)
        refine ⟨.inr hSS, ?_⟩
        refine ha_one 9 (by kernel_rfl) rfl (wn_none rfl) (wp_store (cs' := #[_, _, _]) hF hS rfl rfl rfl rfl 0 rfl sz25 (by simp [Value.cells, Value.oneCell']) (by simp [Value.cells]) rfl ?_)
        clear hF hS; intro a w hF hS
        replace hSS := hS.sub [8] (by decide) rfl (by simp)
        refine ⟨.inr hSS, ?_⟩
        refine ha_y 10 hF rfl rfl rfl (wn_none rfl) (.inr hSS) (yl_assign hF rfl rfl) ?_
        clear hF; intro a hF
        refine ha_done (by kernel_rfl) ?_ _
        refine cut_n ?_
        exact ⟨_, _, _, hq525, hF.to [0, 1, 2, 3, 4, 5, 12, 13, 14, 15, 16, 17, 18, 19, 20, 21, 22, 23, 24, 25, 26, 27] rfl, (hS.sub [0, 1, 2, 3, 4, 5, 6, 7, 8, 9, 10] (by decide) (by first | rfl | simp) (by simp))⟩
      · skip
        refine ha_op 8 rfl (wn_none rfl) (wp_alloc (cs := #[_, _, _]) hF hS rfl rfl rfl zr25 rfl ?_)
        clear hF hS; intro a w g527 hF hS
        replace hSS := hS.sub [7] (by decide) rfl (by simp)
        refine ⟨.inr hSS, ?_⟩
        refine ha_one 4 (by kernel_rfl) rfl (wn_none rfl) (wp_call (vs := [_, _]) hF rfl rfl rfl rfl cf25 (dest2_any st408 _ Lq410 (rm411) ((((rnd (n3) (6 : Int))) - (1 : Int))) _ (hS.rdRow 8 rfl) (by first | omega | (simp; done)) (by first | omega | (simp; done))) ?_)
        clear hF; rintro _ w ⟨st528, v529, Lq530, rm531, b532, rfl, hq533, hS1⟩ a hF
        replace hS := hS.callB hS1 rfl; clear hS1
        obtain ⟨Av529, cv529, rfl⟩ := hS.form 0 rfl
        have hq533b := destF_bd hq533
        have h8 := hq486.symm.trans hq533; injection h8 with e1 h8; injection h8 with e2 h8; injection h8 with e3 e4; subst e1 e2 e3 e4
        replace hSS := hS.sub [8] (by decide) rfl (by simp)
        refine ⟨.inr hSS, ?_⟩
        refine ha_y 5 hF rfl rfl rfl (wn_none rfl) (.inr hSS) (yl_move hF rfl rfl) ?_
        clear hF; intro a hF
        refine ha_y 6 hF rfl rfl rfl (wn_none rfl) (.inr hSS) (yl_extract hF rfl rfl rfl) ?_
        clear hF; intro a hF
        refine ha_y 7 hF rfl rfl rfl (wn_none rfl) (.inr hSS) (yl_extract hF rfl rfl rfl) ?_
        clear hF; intro a hF
        refine ha_one 9 (by kernel_rfl) rfl (wn_none rfl) (wp_store (cs' := #[_, _, _]) hF hS rfl rfl rfl rfl 1 rfl sz25 (by simp [Value.cells, Value.oneCell']) (by simp [Value.cells]) rfl ?_)
        clear hF hS; intro a w hF hS
        replace hSS := hS.sub [8] (by decide) rfl (by simp)
        refine ⟨.inr hSS, ?_⟩
        refine ha_y 10 hF rfl rfl rfl (wn_none rfl) (.inr hSS) (yl_assign hF rfl rfl) ?_
        clear hF; intro a hF
        refine ha_done (by kernel_rfl) ?_ _
        refine cut_n ?_
        exact ⟨_, _, _, hq533, hF.to [0, 1, 2, 3, 4, 5, 12, 13, 14, 15, 16, 17, 18, 19, 20, 21, 22, 23, 24, 25, 26, 27] rfl, (hS.sub [1, 0, 2, 3, 4, 5, 6, 7, 8, 9, 10] (by decide) (by first | rfl | simp) (by simp))⟩
    · skip
      refine ha_op 8 rfl (wn_none rfl) (wp_alloc (cs := #[_, _, _]) hF hS rfl rfl rfl zr25 rfl ?_)
      clear hF hS; intro a w g534 hF hS
      replace hSS := hS.sub [7] (by decide) rfl (by simp)
      refine ⟨.inr hSS, ?_⟩
      have hr535 := rnd_any (n3) (6 : Int)
      refine ha_one 2 (by kernel_rfl) rfl (wn_none rfl) (wp_call (vs := [_, _]) hF rfl rfl rfl rfl cf12 (round_any (n3) (6 : Int) _ (by omega)) ?_)
      clear hF; rintro _ w ⟨rfl, hS1⟩ a hF
      replace hS := hS.callB hS1 rfl; clear hS1
      replace hSS := hS.sub [7] (by decide) rfl (by simp)
      refine ⟨.inr hSS, ?_⟩
      refine ha_y 3 hF rfl rfl rfl (wn_none rfl) (.inr hSS) (yl_bin hF rfl rfl rfl rfl (fun _ => run_sub (by refine ⟨?_, ?_⟩ <;> omega))) ?_
      clear hF; intro a hF
      refine ha_one 4 (by kernel_rfl) rfl (wn_none rfl) (wp_call (vs := [_, _]) hF rfl rfl rfl rfl cf25 (dest2_any st408 _ Lq410 (rm411) ((((rnd (n3) (6 : Int))) - (1 : Int))) _ (hS.rdRow 8 rfl) (by first | omega | (simp; done)) (by first | omega | (simp; done))) ?_)
      clear hF; rintro _ w ⟨st536, v537, Lq538, rm539, b540, rfl, hq541, hS1⟩ a hF
      replace hS := hS.callB hS1 rfl; clear hS1
      obtain ⟨Av537, cv537, rfl⟩ := hS.form 0 rfl
      have hq541b := destF_bd hq541
      have h8 := hq486.symm.trans hq541; injection h8 with e1 h8; injection h8 with e2 h8; injection h8 with e3 e4; subst e1 e2 e3 e4
      replace hSS := hS.sub [8] (by decide) rfl (by simp)
      refine ⟨.inr hSS, ?_⟩
      refine ha_y 5 hF rfl rfl rfl (wn_none rfl) (.inr hSS) (yl_move hF rfl rfl) ?_
      clear hF; intro a hF
      refine ha_y 6 hF rfl rfl rfl (wn_none rfl) (.inr hSS) (yl_extract hF rfl rfl rfl) ?_
      clear hF; intro a hF
      refine ha_y 7 hF rfl rfl rfl (wn_none rfl) (.inr hSS) (yl_extract hF rfl rfl rfl) ?_
      clear hF; intro a hF
      refine ha_one 9 (by kernel_rfl) rfl (wn_none rfl) (wp_store (cs' := #[_, _, _]) hF hS rfl rfl rfl rfl 1 rfl sz25 (by simp [Value.cells, Value.oneCell']) (by simp [Value.cells]) rfl ?_)
      clear hF hS; intro a w hF hS
      replace hSS := hS.sub [8] (by decide) rfl (by simp)
      refine ⟨.inr hSS, ?_⟩
      refine ha_y 10 hF rfl rfl rfl (wn_none rfl) (.inr hSS) (yl_assign hF rfl rfl) ?_
      clear hF; intro a hF
      refine ha_done (by kernel_rfl) ?_ _
      refine cut_n ?_
      exact ⟨_, _, _, hq541, hF.to [0, 1, 2, 3, 4, 5, 12, 13, 14, 15, 16, 17, 18, 19, 20, 21, 22, 23, 24, 25, 26, 27] rfl, (hS.sub [1, 0, 2, 3, 4, 5, 6, 7, 8, 9, 10] (by decide) (by first | rfl | simp) (by simp))⟩
  clear hF hS
  rintro a w ⟨g518, Av513, cv513, hcut510_0, hF, hS⟩
  have hq517 := hcut510_0; have hq517b := destF_bd hq517
  refine then_n ?_
  refine c_seq ?_
  refine ha_startS hS [8, 6, 4, 2, 0] 52 (by kernel_rfl) ?_; clear hS; intro w hS
  have hSS := hS.sub [8, 6, 4, 2, 0] (by decide) rfl (by simp)
  refine ha_l 0 hF rfl rfl rfl (wn_none rfl) hSS (yl_loadK (rs := [_, _, _]) (fun _ h => h) hF rfl rfl 0 rfl ag25 sz25 rfl rfl) ?_
  clear hF; intro a hF
  refine ha_one 1 (by kernel_rfl) rfl (wn_none rfl) (wp_call (vs := [_]) hF rfl rfl rfl rfl cf26 (dValid_any st408 _ Lq410 (rm411) _ (hS.rdRow 9 rfl) (by first | omega | (simp; done)) (by first | omega | (simp; done))) ?_)
  clear hF; rintro _ w ⟨rfl, hS1⟩ a hF
  replace hS := hS.callB hS1 rfl; clear hS1
  replace hSS := hS.sub [8, 6, 4, 2, 0] (by decide) rfl (by simp)
  refine ⟨.inr hSS, ?_⟩
  replace hF := fr_set (b' := true) hF (decide_eq_true hd412d)
  refine ha_y 2 hF rfl rfl rfl (wn_none rfl) (.inr hSS) (yl_move hF rfl rfl) ?_
  clear hF; intro a hF
  refine ha_y 3 hF rfl rfl rfl (wn_t hF rfl rfl rfl rfl) (.inr hSS) (yl_move hF rfl rfl) ?_
  clear hF; intro a hF
  refine ha_y 4 hF rfl rfl rfl (wn_t hF rfl rfl rfl rfl) (.inr hSS) (yl_move hF rfl rfl) ?_
  clear hF; intro a hF
  refine ha_y 5 hF rfl rfl rfl (wn_t hF rfl rfl rfl rfl) (.inr hSS) (yl_bin hF rfl rfl rfl rfl (fun _ => run_str_eql)) ?_
  clear hF; intro a hF
  replace hF := fr_set (b' := true) hF (by simp)
  refine ha_y 6 hF rfl rfl rfl (wn_none rfl) (.inr hSS) (yl_pick (u := _) (v := undef) hF rfl rfl (fun _ => rfl) (fun h => by cases h)) ?_
  clear hF; intro a hF
  refine ha_y 7 hF rfl rfl rfl (wn_none rfl) (.inr hSS) (yl_move hF rfl rfl) ?_
  clear hF; intro a hF
  refine ha_y 8 hF rfl rfl rfl (wn_t hF rfl rfl rfl rfl) (.inr hSS) (yl_move hF rfl rfl) ?_
  clear hF; intro a hF
  refine ha_y 9 hF rfl rfl rfl (wn_t hF rfl rfl rfl rfl) (.inr hSS) (yl_move hF rfl rfl) ?_
  clear hF; intro a hF
  refine ha_y 10 hF rfl rfl rfl (wn_t hF rfl rfl rfl rfl) (.inr hSS) (yl_bin hF rfl rfl rfl rfl (fun _ => run_eqb Try.underlying4)) ?_
  clear hF; intro a hF
  replace hF := fr_set (b' := true) hF (by simp)
  refine ha_y 11 hF rfl rfl rfl (wn_none rfl) (.inr hSS) (yl_pick (u := _) (v := undef) hF rfl rfl (fun _ => rfl) (fun h => by cases h)) ?_
  clear hF; intro a hF
  refine ha_y 12 hF rfl rfl rfl (wn_none rfl) (.inr hSS) (yl_move hF rfl rfl) ?_
  clear hF; intro a hF
  refine ha_l 13 hF rfl rfl rfl (wn_t hF rfl rfl rfl rfl) hSS (yl_loadK (rs := [_, _, _]) (fun _ h => h) hF rfl rfl 1 rfl ag25 sz25 rfl rfl) ?_
  clear hF; intro a hF
  refine ha_l 14 hF rfl rfl rfl (wn_t hF rfl rfl rfl rfl) hSS (yl_loadK (rs := [_, _, _]) (fun _ h => h) hF rfl rfl 2 rfl ag25 sz25 rfl rfl) ?_
  clear hF; intro a hF
  refine ha_one 15 (by kernel_rfl) rfl (wn_t hF rfl rfl rfl rfl) (wp_call (vs := [_, _]) hF rfl rfl rfl rfl cf28 (sameD_any st419 _ Lq421 (rm422) st419 _ Lq421 (rm422) _ (hS.rdRow 7 rfl) (hS.rdRow 5 rfl) (by first | omega | (simp; done)) (by first | omega | (simp; done))) ?_)
  clear hF; rintro _ w ⟨rfl, hS1⟩ a hF
  replace hS := hS.callB hS1 rfl; clear hS1
  replace hSS := hS.sub [8, 6, 4, 2, 0] (by decide) rfl (by simp)
  refine ⟨.inr hSS, ?_⟩
  replace hF := fr_set (b' := true) hF (by simp)
  refine ha_y 16 hF rfl rfl rfl (wn_none rfl) (.inr hSS) (yl_pick (u := _) (v := undef) hF rfl rfl (fun _ => rfl) (fun h => by cases h)) ?_
  clear hF; intro a hF
  refine ha_y 17 hF rfl rfl rfl (wn_none rfl) (.inr hSS) (yl_move hF rfl rfl) ?_
  clear hF; intro a hF
  refine ha_y 18 hF rfl rfl rfl (wn_t hF rfl rfl rfl rfl) (.inr hSS) (yl_move hF rfl rfl) ?_
  clear hF; intro a hF
  refine ha_y 19 hF rfl rfl rfl (wn_t hF rfl rfl rfl rfl) (.inr hSS) (yl_move hF rfl rfl) ?_
  clear hF; intro a hF
  refine ha_y 20 hF rfl rfl rfl (wn_t hF rfl rfl rfl rfl) (.inr hSS) (yl_bin hF rfl rfl rfl rfl (fun _ => run_eqb Try.underlying4)) ?_
  clear hF; intro a hF
  replace hF := fr_set (b' := true) hF (by simp)
  refine ha_y 21 hF rfl rfl rfl (wn_none rfl) (.inr hSS) (yl_pick (u := _) (v := undef) hF rfl rfl (fun _ => rfl) (fun h => by cases h)) ?_
  clear hF; intro a hF
  refine ha_y 22 hF rfl rfl rfl (wn_none rfl) (.inr hSS) (yl_move hF rfl rfl) ?_
  clear hF; intro a hF
  refine ha_l 23 hF rfl rfl rfl (wn_t hF rfl rfl rfl rfl) hSS (yl_loadK (rs := [_, _, _]) (fun _ h => h) hF rfl rfl 3 rfl ag25 sz25 rfl rfl) ?_
  clear hF; intro a hF
  refine ha_l 24 hF rfl rfl rfl (wn_t hF rfl rfl rfl rfl) hSS (yl_loadK (rs := [_, _, _]) (fun _ h => h) hF rfl rfl 4 rfl ag25 sz25 rfl rfl) ?_
  clear hF; intro a hF
  refine ha_one 25 (by kernel_rfl) rfl (wn_t hF rfl rfl rfl rfl) (wp_call (vs := [_, _]) hF rfl rfl rfl rfl cf28 (sameD_any st481 _ Lq483 (rm484) st481 _ Lq483 (rm484) _ (hS.rdRow 3 rfl) (hS.rdRow 1 rfl) (by first | omega | (simp; done)) (by first | omega | (simp; done))) ?_)
  clear hF; rintro _ w ⟨rfl, hS1⟩ a hF
  replace hS := hS.callB hS1 rfl; clear hS1
  replace hSS := hS.sub [8, 6, 4, 2, 0] (by decide) rfl (by simp)
  refine ⟨.inr hSS, ?_⟩
  replace hF := fr_set (b' := true) hF (by simp)
  refine ha_y 26 hF rfl rfl rfl (wn_none rfl) (.inr hSS) (yl_pick (u := _) (v := undef) hF rfl rfl (fun _ => rfl) (fun h => by cases h)) ?_
  clear hF; intro a hF
  refine ha_y 27 hF rfl rfl rfl (wn_none rfl) (.inr hSS) (yl_move hF rfl rfl) ?_
  clear hF; intro a hF
  refine ha_y 28 hF rfl rfl rfl (wn_t hF rfl rfl rfl rfl) (.inr hSS) (yl_move hF rfl rfl) ?_
  clear hF; intro a hF
  refine ha_y 29 hF rfl rfl rfl (wn_t hF rfl rfl rfl rfl) (.inr hSS) (yl_move hF rfl rfl) ?_
  clear hF; intro a hF
  refine ha_y 30 hF rfl rfl rfl (wn_t hF rfl rfl rfl rfl) (.inr hSS) (yl_bin hF rfl rfl rfl rfl (fun _ => run_eqb Try.underlying4)) ?_
  clear hF; intro a hF
  replace hF := fr_set (b' := true) hF (by simp)
  refine ha_y 31 hF rfl rfl rfl (wn_none rfl) (.inr hSS) (yl_pick (u := _) (v := undef) hF rfl rfl (fun _ => rfl) (fun h => by cases h)) ?_
  clear hF; intro a hF
  refine ha_y 32 hF rfl rfl rfl (wn_none rfl) (.inr hSS) (yl_move hF rfl rfl) ?_
  clear hF; intro a hF
  refine ha_l 33 hF rfl rfl rfl (wn_t hF rfl rfl rfl rfl) hSS (yl_loadK (rs := [_, _, _]) (fun _ h => h) hF rfl rfl 0 rfl ag25 sz25 rfl rfl) ?_
  clear hF; intro a hF
  refine ha_l 35 hF rfl rfl rfl (wn_t hF rfl rfl rfl rfl) hSS (yl_loadK (rs := [_, _, _]) (fun _ h => h) hF rfl rfl 0 rfl ag25 sz25 rfl rfl) ?_
  clear hF; intro a hF
  refine ha_one 34 (by kernel_rfl) rfl (wn_t hF rfl rfl rfl rfl) (wp_call (vs := [_]) hF rfl rfl rfl rfl cf21 (flush_any st408 _ Lq410 (rm411) _ (hS.rdRow 9 rfl) (by first | omega | (simp; done)) (by first | omega | (simp; done))) ?_)
  clear hF; rintro _ w ⟨st542, rm543, v544, rfl, hq545, hE546, hS1⟩ a hF
  replace hS := hS.callB hS1 rfl; clear hS1
  have hq545b := flushF_bd hq545; replace hS := hS.addRo (hE546.rd enc39 2 _); obtain ⟨Av544, cv544, rfl⟩ := (hE546.rd enc39 2 w).form
  replace hSS := hS.sub [9, 7, 5, 3, 1] (by decide) rfl (by simp)
  refine ⟨.inr hSS, ?_⟩
  refine ha_one 36 (by kernel_rfl) rfl (wn_t hF rfl rfl rfl rfl) (wp_call (vs := [_]) hF rfl rfl rfl rfl cf29 (flush2_any st408 _ Lq410 (rm411) _ (hS.rdRow 10 rfl) (by first | omega | (simp; done)) (by first | omega | (simp; done))) ?_)
  clear hF; rintro _ w ⟨st547, rm548, v549, rfl, hq550, hE551, hS1⟩ a hF
  replace hS := hS.callB hS1 rfl; clear hS1
  have hq550b := flushF_bd hq550; replace hS := hS.addRo (hE551.rd enc39 2 _); obtain ⟨Av549, cv549, rfl⟩ := (hE551.rd enc39 2 w).form
  have h8 := hq545.symm.trans hq550; injection h8 with e1 e2; subst e1 e2
  replace hSS := hS.sub [10, 8, 6, 4, 2] (by decide) rfl (by simp)
  refine ⟨.inr hSS, ?_⟩
  refine ha_one 37 (by kernel_rfl) rfl (wn_t hF rfl rfl rfl rfl) (wp_call (vs := [_, _]) hF rfl rfl rfl rfl cf28 (sameD_any st542 _ ([] : List E39) (rm543) st542 _ ([] : List E39) (rm543) _ (hS.rdRo 1 rfl) (hS.rdRo 0 rfl) (by first | omega | (simp; done)) (by first | omega | (simp; done))) ?_)
  clear hF; rintro _ w ⟨rfl, hS1⟩ a hF
  replace hS := hS.callB hS1 rfl; clear hS1
  replace hSS := hS.sub [10, 8, 6, 4, 2] (by decide) rfl (by simp)
  refine ⟨.inr hSS, ?_⟩
  replace hF := fr_set (b' := true) hF (by simp)
  refine ha_y 38 hF rfl rfl rfl (wn_none rfl) (.inr hSS) (yl_pick (u := _) (v := undef) hF rfl rfl (fun _ => rfl) (fun h => by cases h)) ?_
  clear hF; intro a hF
  refine ha_y 39 hF rfl rfl rfl (wn_none rfl) (.inr hSS) (yl_move hF rfl rfl) ?_
  clear hF; intro a hF
  refine ha_y 41 hF rfl rfl rfl (wn_t hF rfl rfl rfl rfl) (.inr hSS) (yl_move hF rfl rfl) ?_
  clear hF; intro a hF
  refine ha_y 44 hF rfl rfl rfl (wn_t hF rfl rfl rfl rfl) (.inr hSS) (yl_move hF rfl rfl) ?_
  clear hF; intro a hF
  refine ha_l 40 hF rfl rfl rfl (wn_t hF rfl rfl rfl rfl) hSS (yl_loadK (rs := [_, _, _]) (fun _ h => h) hF rfl rfl 0 rfl ag25 sz25 rfl rfl) ?_
  clear hF; intro a hF
  refine ha_l 43 hF rfl rfl rfl (wn_t hF rfl rfl rfl rfl) hSS (yl_loadK (rs := [_, _, _]) (fun _ h => h) hF rfl rfl 0 rfl ag25 sz25 rfl rfl) ?_
  clear hF; intro a hF
  refine ha_one 42 (by kernel_rfl) rfl (wn_t hF rfl rfl rfl rfl) (wp_call (vs := [_, _]) hF rfl rfl rfl rfl cf16 (vers_any st408 _ Lq410 (rm411) ((((rnd (n1) (8 : Int))) - (1 : Int))) _ (hS.rdRow 11 rfl) (by first | omega | (simp; done)) (by first | omega | (simp; done))) ?_)
  clear hF; rintro _ w ⟨v552, M553, rfl, hM554, hS1⟩ a hF
  replace hS := hS.callB hS1 rfl; clear hS1
  obtain ⟨Av552, cv552, rfl⟩ := hS.form 0 rfl
  have hM554l := vers_len st408 Lq410 (rm411) ((((rnd (n1) (8 : Int))) - (1 : Int))); rw [← hM554] at hM554l
  replace hSS := hS.sub [11, 9, 7, 5, 3] (by decide) rfl (by simp)
  refine ⟨.inr hSS, ?_⟩
  refine ha_one 45 (by kernel_rfl) rfl (wn_t hF rfl rfl rfl rfl) (wp_call (vs := [_, _]) hF rfl rfl rfl rfl cf30 (vers2_any st408 _ Lq410 (rm411) ((((rnd (n1) (8 : Int))) - (1 : Int))) _ (hS.rdRow 12 rfl) (by first | omega | (simp; done)) (by first | omega | (simp; done))) ?_)
  clear hF; rintro _ w ⟨v555, M556, rfl, hM557, hS1⟩ a hF
  replace hS := hS.callB hS1 rfl; clear hS1
  obtain ⟨Av555, cv555, rfl⟩ := hS.form 0 rfl
  have hM557l := vers_len st408 Lq410 (rm411) ((((rnd (n1) (8 : Int))) - (1 : Int))); rw [← hM557] at hM557l
  replace hSS := hS.sub [12, 10, 8, 6, 4] (by decide) rfl (by simp)
  refine ⟨.inr hSS, ?_⟩
  refine ha_one 46 (by kernel_rfl) rfl (wn_t hF rfl rfl rfl rfl) (wp_call (vs := [_, _]) hF rfl rfl rfl rfl cf17 (texts_any _ _ M553 M556 _ (hS.rdRow 1 rfl) (hS.rdRow 0 rfl) (by first | omega | (simp; done) | (simp; omega))) ?_)
  clear hF; rintro _ w ⟨rfl, hS1⟩ a hF
  replace hS := hS.callB hS1 rfl; clear hS1
  replace hSS := hS.sub [12, 10, 8, 6, 4] (by decide) rfl (by simp)
  refine ⟨.inr hSS, ?_⟩
  replace hF := fr_set (b' := true) hF (by rw [hM554, hM557]; simp)
  refine ha_y 47 hF rfl rfl rfl (wn_none rfl) (.inr hSS) (yl_pick (u := _) (v := undef) hF rfl rfl (fun _ => rfl) (fun h => by cases h)) ?_
  clear hF; intro a hF
  refine ha_y 48 hF rfl rfl rfl (wn_none rfl) (.inr hSS) (yl_move hF rfl rfl) ?_
  clear hF; intro a hF
  refine ha_one 49 (by kernel_rfl) rfl (wn_t hF rfl rfl rfl rfl) (wp_call (vs := []) hF rfl rfl rfl rfl cf18 (awake_any _) ?_)
  clear hF; rintro _ w ⟨rfl, hS1⟩ a hF
  replace hS := hS.callB hS1 rfl; clear hS1
  replace hSS := hS.sub [12, 10, 8, 6, 4] (by decide) rfl (by simp)
  refine ⟨.inr hSS, ?_⟩
  refine ha_y 50 hF rfl rfl rfl (wn_none rfl) (.inr hSS) (yl_pick (u := _) (v := undef) hF rfl rfl (fun _ => rfl) (fun h => by cases h)) ?_
  clear hF; intro a hF
  refine ha_y 51 hF rfl rfl rfl (wn_none rfl) (.inr hSS) (yl_assign hF rfl rfl) ?_
  clear hF; intro a hF
  refine ha_done (by kernel_rfl) ?_ _
  refine then_n ?_
  refine wp_ret ?_
  refine ret_t hF rfl rfl ?_
  exact ⟨_, rfl, rfl, (hS.sub [] (by decide) (by first | rfl | simp) (by simp))⟩

end Go.Proofs.Yteidhjdkaaddgaa

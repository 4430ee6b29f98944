/- walks, printed by wip/gen -/
import Derived.Test.YtlhcpeolkkadbaaWm
import Derived.Test.YtlhcpeolkkadbaaPE
import Derived.Test.YtlhcpeolkkadbaaW6
namespace Go.Proofs.Ytlhcpeolkkadbaa
open Go.RowKit
set_option linter.unusedVariables false
set_option linter.unusedSimpArgs false

set_option maxHeartbeats 1000000 in
set_option maxRecDepth 100000 in
theorem more_any (av : Value) (A : List Int) (bv : Value) (B : List Int) (n1 n2 n3 : Int) (w0 : World) (hav : Rd w0 1 av (A).length (cells encI (A))) (hal : A.length ≤ 9223372036854775807) (hbv : Rd w0 1 bv (B).length (cells encI (B))) (hbl : B.length ≤ 9223372036854775807) :
    Fn Try.prog 9 #[av, bv, .int .i64 n1, .int .i64 n2, .int .i64 n3] w0 (fun v w' => v = .bool true ∧ Sat w0 w' []) := by
  obtain ⟨Aav, cav, rfl⟩ := Rd.form hav
  obtain ⟨Abv, cbv, rfl⟩ := Rd.form hbv
  refine c_enter (N := 81) (l := [_, _, _, _, _]) Try.func9 rfl rfl (fun a w hF hS => ?_)
  replace hS := hS.addRo hbv
  replace hS := hS.addRo hav
  refine c_seq ?_
  refine c_region ?_
  refine seq_yl hF (wn_none rfl) rfl rfl (yl_assign hF rfl rfl) ?_
  clear hF; intro a hF
  refine wpList_nil ?_
  refine then_n ?_
  refine c_seq ?_
  refine c_region ?_
  refine seq_yl hF (wn_none rfl) rfl rfl (yl_move hF rfl rfl) ?_
  clear hF; intro a hF
  refine seq_wp (wn_none rfl) (wp_call (vs := [_]) hF rfl rfl rfl rfl cf20 (drive_any _ A _ (hS.rdRo 0 rfl) (by first | omega | (simp; done) | (simp; omega))) ?_)
  clear hF; rintro _ w ⟨st649, v650, Lq651, rm652, rfl, hd653, hS1⟩ a hF
  replace hS := hS.callB hS1 rfl; clear hS1
  obtain ⟨Av650, cv650, rfl⟩ := hS.form 0 rfl
  obtain ⟨hd653d, hd653s⟩ := hd653; have hd653i := okD_I hd653d
  refine seq_wp (wn_none rfl) (wp_alloc (cs := #[_, _, _]) hF hS rfl rfl rfl zr24 rfl ?_)
  clear hF hS; intro a w g654 hF hS
  refine seq_wp (wn_none rfl) (wp_store (cs' := #[_, _, _]) hF hS rfl rfl rfl rfl 0 rfl sz24 (by simp [Value.cells, Value.oneCell']) (by simp [Value.cells]) rfl ?_)
  clear hF hS; intro a w hF hS
  refine wpList_nil ?_
  refine then_n ?_
  refine c_seq ?_
  refine c_region ?_
  refine seq_yl hF (wn_none rfl) rfl rfl (yl_fieldAddr hF rfl rfl (fun w => by kernel_rfl : ∀ w, (Instr.fieldAt 24 (.pointer (some ⟨g654, 0, none⟩)) 2).run Try.prog w = .ok (.pointer (some ⟨g654, 2, none⟩)) w)) ?_
  clear hF; intro a hF
  refine seq_wp (wn_none rfl) (wp_store (cs' := #[_, _, _]) hF hS rfl rfl rfl rfl 0 rfl sz3 (by simp [Value.cells, Value.oneCell']) (by simp [Value.cells]) rfl ?_)
  clear hF hS; intro a w hF hS
  refine wpList_nil ?_
  refine then_n ?_
  refine c_seq ?_
  refine ha_startS hS [0] 5 (by kernel_rfl) ?_; clear hS; intro w hS
  have hSS := hS.sub [0] (by decide) rfl (by simp)
  have hdr := okD_room hd653d (r2 := 20) (by omega) (by omega); have hdri := okD_I hdr
  refine ha_y 1 hF rfl rfl rfl (wn_none rfl) (.inr hSS) (yl_move hF rfl rfl) ?_
  clear hF; intro a hF
  refine ha_l 0 hF rfl rfl rfl (wn_none rfl) hSS (yl_loadK (rs := [_, _, _]) (fun _ h => h) hF rfl rfl 0 rfl ag24 sz24 rfl rfl) ?_
  clear hF; intro a hF
  refine ha_one 2 (by kernel_rfl) rfl (wn_none rfl) (wp_call (vs := [_]) hF rfl rfl rfl rfl cf22 (choice_any _ B _ (hS.rdRo 3 rfl) (by first | omega | (simp; done) | (simp; omega))) ?_)
  clear hF; rintro _ w ⟨v655, Pq656, v657, Tq658, rfl, hch659, hS1⟩ a hF
  replace hS := hS.callB hS1 rfl; clear hS1
  obtain ⟨Av655, cv655, rfl⟩ := hS.form 0 rfl
  obtain ⟨Av657, cv657, rfl⟩ := hS.form 1 rfl
  replace hSS := hS.sub [2] (by decide) rfl (by simp)
  refine ⟨.inr hSS, ?_⟩
  refine ha_one 3 (by kernel_rfl) rfl (wn_none rfl) (wp_call (vs := [_, _, _]) hF rfl rfl rfl rfl cf15 (choose_any st649 _ Lq651 (20 : Int) _ ([] : List E59) _ Pq656 _ Tq658 _ (hS.rdRow 3 rfl) (by first | omega | (simp; done)) (by first | omega | (simp; done)) (rd_nil _ 2 0 enc59) (by first | omega | (simp; done)) (hS.rdRow 0 rfl) (hS.rdRow 1 rfl) (by first | omega | (simp; done)) (by first | omega | (simp; done))) ?_)
  clear hF; rintro _ w ⟨rfl, hS1⟩ a hF
  replace hS := hS.callB hS1 rfl; clear hS1
  have hz660 := choose_bd st649 Lq651 ([] : List E59) (20 : Int) Pq656 Tq658
  replace hSS := hS.sub [2] (by decide) rfl (by simp)
  refine ⟨.inr hSS, ?_⟩
  refine ha_y 4 hF rfl rfl rfl (wn_none rfl) (.inr hSS) (yl_assign hF rfl rfl) ?_
  clear hF; intro a hF
  refine ha_done (by kernel_rfl) ?_ _
  refine then_n ?_
  refine c_seq ?_
  refine c_cut (fun a w => ∃ (st663 : ByteArray) (Lq665 : List E59) (g669 : Nat) (Av664 : Option Addr) (cv664 : Nat), (writeF st649 Lq651 (20 : Int) ((rnd (n1) ((((st649).size : Int) / 8)))) (dataF (n2) (1 : Int)) false = (st663, Lq665, (20 : Int), true)) ∧ (okD st663 Lq665 (20 : Int)) ∧ (((st663).size : Int) = ((st649).size : Int)) ∧ Fr 81 a [(0, .slice Aav (A).length cav), (1, .slice Abv (B).length cbv), (2, .int .i64 (n1)), (3, .int .i64 (n2)), (4, .int .i64 (n3)), (10, .bool false), (11, .pointer (some ⟨g654, 0, none⟩)), (12, .string (chooseF st649 Lq651 ([] : List E59) (20 : Int) Pq656 Tq658)), (13, .pointer (some ⟨g669, 0, none⟩)), (14, .bool true)] ∧ Sat w0 w (.box g669 24 #[.string st663, .slice Av664 (Lq665).length cv664, .int .i64 ((20 : Int))] :: .row 59 2 (.slice Av664 (Lq665).length cv664) (Lq665).length (cells enc59 (Lq665)) :: .row 3 1 (.slice Av655 (Pq656).length cv655) (Pq656).length (cells encI (Pq656)) :: .row 4 1 (.slice Av657 (Tq658).length cv657) (Tq658).length (cells encB (Tq658)) :: .box g654 24 #[.string st649, .slice Av650 (Lq651).length cv650, .int .i64 (20 : Int)] :: .row 59 2 (.slice Av650 (Lq651).length cv650) (Lq651).length (cells enc59 (Lq651)) :: .ro 1 (.slice Aav (A).length cav) (A).length (cells encI (A)) :: .ro 1 (.slice Abv (B).length cbv) (B).length (cells encI (B)) :: [])) ?_ ?_
  · skip
    refine ha_startS hS [2] 14 (by kernel_rfl) ?_; clear hS; intro w hS
    have hSS := hS.sub [2] (by decide) rfl (by simp)
    refine ha_y 1 hF rfl rfl rfl (wn_none rfl) (.inr hSS) (yl_move hF rfl rfl) ?_
    clear hF; intro a hF
    refine ha_y 5 hF rfl rfl rfl (wn_none rfl) (.inr hSS) (yl_move hF rfl rfl) ?_
    clear hF; intro a hF
    refine ha_l 0 hF rfl rfl rfl (wn_none rfl) hSS (yl_loadK (rs := [_, _, _]) (fun _ h => h) hF rfl rfl 0 rfl ag24 sz24 rfl rfl) ?_
    clear hF; intro a hF
    refine ha_l 2 hF rfl rfl rfl (wn_none rfl) hSS (yl_loadK (rs := [_, _, _]) (fun _ h => h) hF rfl rfl 0 rfl ag24 sz24 rfl rfl) ?_
    clear hF; intro a hF
    refine ha_all (rs := [3, 11]) (by kernel_rfl) (by simp) ?_
    refine List.forall_mem_cons.2 ⟨?_, List.forall_mem_cons.2 ⟨?_, (fun _ h => by cases h)⟩⟩
    · skip
      refine ha_op 3 rfl (wn_none rfl) (wp_call (vs := [_]) hF rfl rfl rfl rfl cf27 (secs_any st649 _ _ _ (by omega)) ?_)
      clear hF; rintro _ w ⟨rfl, hS1⟩ a hF
      replace hS := hS.callB hS1 rfl; clear hS1
      replace hSS := hS.sub [2] (by decide) rfl (by simp)
      refine ⟨.inr hSS, ?_⟩
      refine ha_all (rs := [4, 11]) (by kernel_rfl) (by simp) ?_
      refine List.forall_mem_cons.2 ⟨?_, List.forall_mem_cons.2 ⟨?_, (fun _ h => by cases h)⟩⟩
      · skip
        have hr670 := rnd_bounds (n1) ((((st649).size : Int) / 8)) (by omega)
        refine ha_op 4 rfl (wn_none rfl) (wp_call (vs := [_, _]) hF rfl rfl rfl rfl cf24 (round_any (n1) ((((st649).size : Int) / 8)) _ (by omega)) ?_)
        clear hF; rintro _ w ⟨rfl, hS1⟩ a hF
        replace hS := hS.callB hS1 rfl; clear hS1
        replace hSS := hS.sub [2] (by decide) rfl (by simp)
        refine ⟨.inr hSS, ?_⟩
        refine ha_all (rs := [6, 11]) (by kernel_rfl) (by simp) ?_
        refine List.forall_mem_cons.2 ⟨?_, List.forall_mem_cons.2 ⟨?_, (fun _ h => by cases h)⟩⟩
        · skip
          refine ha_op 6 rfl (wn_none rfl) (wp_call (vs := [_, _]) hF rfl rfl rfl rfl cf25 (data_any (n2) (1 : Int) _ (by omega)) ?_)
          clear hF; rintro _ w ⟨rfl, hS1⟩ a hF
          replace hS := hS.callB hS1 rfl; clear hS1
          have hz671 := dataF_size (n2) (1 : Int)
          replace hSS := hS.sub [2] (by decide) rfl (by simp)
          refine ⟨.inr hSS, ?_⟩
          refine ha_all (rs := [7, 11]) (by kernel_rfl) (by simp) ?_
          refine List.forall_mem_cons.2 ⟨?_, List.forall_mem_cons.2 ⟨?_, (fun _ h => by cases h)⟩⟩
          · skip
            refine ha_op 7 rfl (wn_none rfl) (wp_call (vs := [_, _, _, _]) hF rfl rfl rfl rfl cf29 (write2_any st649 _ Lq651 (20 : Int) ((rnd (n1) ((((st649).size : Int) / 8)))) (dataF (n2) (1 : Int)) false _ (hS.rdRow 3 rfl) (by first | omega | (simp; done)) (by first | omega | (simp; done)) (by first | omega | (simp; done))) ?_)
            clear hF; rintro _ w ⟨st672, v673, Lq674, rm675, b676, rfl, hq677, hS1⟩ a hF
            replace hS := hS.callB hS1 rfl; clear hS1
            obtain ⟨Av673, cv673, rfl⟩ := hS.form 0 rfl
            have hq677b := writeF_bd hq677
            obtain ⟨rfl, -, -, hq677d, hq677s, rfl⟩ := (writeF_ok hq677).resolve_right (fun h9 => h9.2.1 (⟨hdr, okW_of (by unfold okS okI; omega) (by omega)⟩))
            have hq677i := okD_I hq677d
            replace hSS := hS.sub [3] (by decide) rfl (by simp)
            refine ⟨.inr hSS, ?_⟩
            refine ha_y 8 hF rfl rfl rfl (wn_none rfl) (.inr hSS) (yl_move hF rfl rfl) ?_
            clear hF; intro a hF
            refine ha_y 9 hF rfl rfl rfl (wn_none rfl) (.inr hSS) (yl_extract hF rfl rfl rfl) ?_
            clear hF; intro a hF
            refine ha_y 10 hF rfl rfl rfl (wn_none rfl) (.inr hSS) (yl_extract hF rfl rfl rfl) ?_
            clear hF; intro a hF
            refine ha_one 11 (by kernel_rfl) rfl (wn_none rfl) (wp_alloc (cs := #[_, _, _]) hF hS rfl rfl rfl zr24 rfl ?_)
            clear hF hS; intro a w g678 hF hS
            replace hSS := hS.sub [4] (by decide) rfl (by simp)
            refine ⟨.inr hSS, ?_⟩
            refine ha_one 12 (by kernel_rfl) rfl (wn_none rfl) (wp_store (cs' := #[_, _, _]) hF hS rfl rfl rfl rfl 0 rfl sz24 (by simp [Value.cells, Value.oneCell']) (by simp [Value.cells]) rfl ?_)
            clear hF hS; intro a w hF hS
            replace hSS := hS.sub [4] (by decide) rfl (by simp)
            refine ⟨.inr hSS, ?_⟩
            refine ha_y 13 hF rfl rfl rfl (wn_none rfl) (.inr hSS) (yl_assign hF rfl rfl) ?_
            clear hF; intro a hF
            refine ha_done (by kernel_rfl) ?_ _
            refine cut_n ?_
            exact ⟨_, _, _, _, _, hq677, hq677d, hq677s, hF.to [0, 1, 2, 3, 4, 10, 11, 12, 13, 14] rfl, (hS.sub [0, 1, 2, 3, 4, 5, 6, 7] (by decide) (by first | rfl | simp) (by simp))⟩
          · skip
            refine ha_op 11 rfl (wn_none rfl) (wp_alloc (cs := #[_, _, _]) hF hS rfl rfl rfl zr24 rfl ?_)
            clear hF hS; intro a w g679 hF hS
            replace hSS := hS.sub [3] (by decide) rfl (by simp)
            refine ⟨.inr hSS, ?_⟩
            refine ha_one 7 (by kernel_rfl) rfl (wn_none rfl) (wp_call (vs := [_, _, _, _]) hF rfl rfl rfl rfl cf29 (write2_any st649 _ Lq651 (20 : Int) ((rnd (n1) ((((st649).size : Int) / 8)))) (dataF (n2) (1 : Int)) false _ (hS.rdRow 4 rfl) (by first | omega | (simp; done)) (by first | omega | (simp; done)) (by first | omega | (simp; done))) ?_)
            clear hF; rintro _ w ⟨st680, v681, Lq682, rm683, b684, rfl, hq685, hS1⟩ a hF
            replace hS := hS.callB hS1 rfl; clear hS1
            obtain ⟨Av681, cv681, rfl⟩ := hS.form 0 rfl
            have hq685b := writeF_bd hq685
            obtain ⟨rfl, -, -, hq685d, hq685s, rfl⟩ := (writeF_ok hq685).resolve_right (fun h9 => h9.2.1 (⟨hdr, okW_of (by unfold okS okI; omega) (by omega)⟩))
            have hq685i := okD_I hq685d
            replace hSS := hS.sub [4] (by decide) rfl (by simp)
            refine ⟨.inr hSS, ?_⟩
            refine ha_y 8 hF rfl rfl rfl (wn_none rfl) (.inr hSS) (yl_move hF rfl rfl) ?_
            clear hF; intro a hF
            refine ha_y 9 hF rfl rfl rfl (wn_none rfl) (.inr hSS) (yl_extract hF rfl rfl rfl) ?_
            clear hF; intro a hF
            refine ha_y 10 hF rfl rfl rfl (wn_none rfl) (.inr hSS) (yl_extract hF rfl rfl rfl) ?_
            clear hF; intro a hF
            refine ha_one 12 (by kernel_rfl) rfl (wn_none rfl) (wp_store (cs' := #[_, _, _]) hF hS rfl rfl rfl rfl 1 rfl sz24 (by simp [Value.cells, Value.oneCell']) (by simp [Value.cells]) rfl ?_)
            clear hF hS; intro a w hF hS
            replace hSS := hS.sub [4] (by decide) rfl (by simp)
            refine ⟨.inr hSS, ?_⟩
            refine ha_y 13 hF rfl rfl rfl (wn_none rfl) (.inr hSS) (yl_assign hF rfl rfl) ?_
            clear hF; intro a hF
            refine ha_done (by kernel_rfl) ?_ _
            refine cut_n ?_
            exact ⟨_, _, _, _, _, hq685, hq685d, hq685s, hF.to [0, 1, 2, 3, 4, 10, 11, 12, 13, 14] rfl, (hS.sub [1, 0, 2, 3, 4, 5, 6, 7] (by decide) (by first | rfl | simp) (by simp))⟩
        · skip
          refine ha_op 11 rfl (wn_none rfl) (wp_alloc (cs := #[_, _, _]) hF hS rfl rfl rfl zr24 rfl ?_)
          clear hF hS; intro a w g686 hF hS
          replace hSS := hS.sub [3] (by decide) rfl (by simp)
          refine ⟨.inr hSS, ?_⟩
          refine ha_one 6 (by kernel_rfl) rfl (wn_none rfl) (wp_call (vs := [_, _]) hF rfl rfl rfl rfl cf25 (data_any (n2) (1 : Int) _ (by omega)) ?_)
          clear hF; rintro _ w ⟨rfl, hS1⟩ a hF
          replace hS := hS.callB hS1 rfl; clear hS1
          have hz687 := dataF_size (n2) (1 : Int)
          replace hSS := hS.sub [3] (by decide) rfl (by simp)
          refine ⟨.inr hSS, ?_⟩
          refine ha_one 7 (by kernel_rfl) rfl (wn_none rfl) (wp_call (vs := [_, _, _, _]) hF rfl rfl rfl rfl cf29 (write2_any st649 _ Lq651 (20 : Int) ((rnd (n1) ((((st649).size : Int) / 8)))) (dataF (n2) (1 : Int)) false _ (hS.rdRow 4 rfl) (by first | omega | (simp; done)) (by first | omega | (simp; done)) (by first | omega | (simp; done))) ?_)
          clear hF; rintro _ w ⟨st688, v689, Lq690, rm691, b692, rfl, hq693, hS1⟩ a hF
          replace hS := hS.callB hS1 rfl; clear hS1
          obtain ⟨Av689, cv689, rfl⟩ := hS.form 0 rfl
          have hq693b := writeF_bd hq693
          obtain ⟨rfl, -, -, hq693d, hq693s, rfl⟩ := (writeF_ok hq693).resolve_right (fun h9 => h9.2.1 (⟨hdr, okW_of (by unfold okS okI; omega) (by omega)⟩))
          have hq693i := okD_I hq693d
          replace hSS := hS.sub [4] (by decide) rfl (by simp)
          refine ⟨.inr hSS, ?_⟩
          refine ha_y 8 hF rfl rfl rfl (wn_none rfl) (.inr hSS) (yl_move hF rfl rfl) ?_
          clear hF; intro a hF
          refine ha_y 9 hF rfl rfl rfl (wn_none rfl) (.inr hSS) (yl_extract hF rfl rfl rfl) ?_
          clear hF; intro a hF
          refine ha_y 10 hF rfl rfl rfl (wn_none rfl) (.inr hSS) (yl_extract hF rfl rfl rfl) ?_
          clear hF; intro a hF
          refine ha_one 12 (by kernel_rfl) rfl (wn_none rfl) (wp_store (cs' := #[_, _, _]) hF hS rfl rfl rfl rfl 1 rfl sz24 (by simp [Value.cells, Value.oneCell']) (by simp [Value.cells]) rfl ?_)
          clear hF hS; intro a w hF hS
          replace hSS := hS.sub [4] (by decide) rfl (by simp)
          refine ⟨.inr hSS, ?_⟩
          refine ha_y 13 hF rfl rfl rfl (wn_none rfl) (.inr hSS) (yl_assign hF rfl rfl) ?_
          clear hF; intro a hF
          refine ha_done (by kernel_rfl) ?_ _
          refine cut_n ?_
          exact ⟨_, _, _, _, _, hq693, hq693d, hq693s, hF.to [0, 1, 2, 3, 4, 10, 11, 12, 13, 14] rfl, (hS.sub [1, 0, 2, 3, 4, 5, 6, 7] (by decide) (by first | rfl | simp) (by simp))⟩
      · skip
        refine ha_op 11 rfl (wn_none rfl) (wp_alloc (cs := #[_, _, _]) hF hS rfl rfl rfl zr24 rfl ?_)
        clear hF hS; intro a w g694 hF hS
        replace hSS := hS.sub [3] (by decide) rfl (by simp)
        refine ⟨.inr hSS, ?_⟩
        have hr695 := rnd_bounds (n1) ((((st649).size : Int) / 8)) (by omega)
        refine ha_one 4 (by kernel_rfl) rfl (wn_none rfl) (wp_call (vs := [_, _]) hF rfl rfl rfl rfl cf24 (round_any (n1) ((((st649).size : Int) / 8)) _ (by omega)) ?_)
        clear hF; rintro _ w ⟨rfl, hS1⟩ a hF
        replace hS := hS.callB hS1 rfl; clear hS1
        replace hSS := hS.sub [3] (by decide) rfl (by simp)
        refine ⟨.inr hSS, ?_⟩
        refine ha_one 6 (by kernel_rfl) rfl (wn_none rfl) (wp_call (vs := [_, _]) hF rfl rfl rfl rfl cf25 (data_any (n2) (1 : Int) _ (by omega)) ?_)
        clear hF; rintro _ w ⟨rfl, hS1⟩ a hF
        replace hS := hS.callB hS1 rfl; clear hS1
        have hz696 := dataF_size (n2) (1 : Int)
        replace hSS := hS.sub [3] (by decide) rfl (by simp)
        refine ⟨.inr hSS, ?_⟩
        refine ha_one 7 (by kernel_rfl) rfl (wn_none rfl) (wp_call (vs := [_, _, _, _]) hF rfl rfl rfl rfl cf29 (write2_any st649 _ Lq651 (20 : Int) ((rnd (n1) ((((st649).size : Int) / 8)))) (dataF (n2) (1 : Int)) false _ (hS.rdRow 4 rfl) (by first | omega | (simp; done)) (by first | omega | (simp; done)) (by first | omega | (simp; done))) ?_)
        clear hF; rintro _ w ⟨st697, v698, Lq699, rm700, b701, rfl, hq702, hS1⟩ a hF
        replace hS := hS.callB hS1 rfl; clear hS1
        obtain ⟨Av698, cv698, rfl⟩ := hS.form 0 rfl
        have hq702b := writeF_bd hq702
        obtain ⟨rfl, -, -, hq702d, hq702s, rfl⟩ := (writeF_ok hq702).resolve_right (fun h9 => h9.2.1 (⟨hdr, okW_of (by unfold okS okI; omega) (by omega)⟩))
        have hq702i := okD_I hq702d
        replace hSS := hS.sub [4] (by decide) rfl (by simp)
        refine ⟨.inr hSS, ?_⟩
        refine ha_y 8 hF rfl rfl rfl (wn_none rfl) (.inr hSS) (yl_move hF rfl rfl) ?_
        clear hF; intro a hF
        refine ha_y 9 hF rfl rfl rfl (wn_none rfl) (.inr hSS) (yl_extract hF rfl rfl rfl) ?_
        clear hF; intro a hF
        refine ha_y 10 hF rfl rfl rfl (wn_none rfl) (.inr hSS) (yl_extract hF rfl rfl rfl) ?_
        clear hF; intro a hF
        refine ha_one 12 (by kernel_rfl) rfl (wn_none rfl) (wp_store (cs' := #[_, _, _]) hF hS rfl rfl rfl rfl 1 rfl sz24 (by simp [Value.cells, Value.oneCell']) (by simp [Value.cells]) rfl ?_)
        clear hF hS; intro a w hF hS
        replace hSS := hS.sub [4] (by decide) rfl (by simp)
        refine ⟨.inr hSS, ?_⟩
        refine ha_y 13 hF rfl rfl rfl (wn_none rfl) (.inr hSS) (yl_assign hF rfl rfl) ?_
        clear hF; intro a hF
        refine ha_done (by kernel_rfl) ?_ _
        refine cut_n ?_
        exact ⟨_, _, _, _, _, hq702, hq702d, hq702s, hF.to [0, 1, 2, 3, 4, 10, 11, 12, 13, 14] rfl, (hS.sub [1, 0, 2, 3, 4, 5, 6, 7] (by decide) (by first | rfl | simp) (by simp))⟩
    · skip
      refine ha_op 11 rfl (wn_none rfl) (wp_alloc (cs := #[_, _, _]) hF hS rfl rfl rfl zr24 rfl ?_)
      clear hF hS; intro a w g703 hF hS
      replace hSS := hS.sub [3] (by decide) rfl (by simp)
      refine ⟨.inr hSS, ?_⟩
      refine ha_one 3 (by kernel_rfl) rfl (wn_none rfl) (wp_call (vs := [_]) hF rfl rfl rfl rfl cf27 (secs_any st649 _ _ _ (by omega)) ?_)
      clear hF; rintro _ w ⟨rfl, hS1⟩ a hF
      replace hS := hS.callB hS1 rfl; clear hS1
      replace hSS := hS.sub [3] (by decide) rfl (by simp)
      refine ⟨.inr hSS, ?_⟩
      have hr704 := rnd_bounds (n1) ((((st649).size : Int) / 8)) (by omega)
      refine ha_one 4 (by kernel_rfl) rfl (wn_none rfl) (wp_call (vs := [_, _]) hF rfl rfl rfl rfl cf24 (round_any (n1) ((((st649).size : Int) / 8)) _ (by omega)) ?_)
      clear hF; rintro _ w ⟨rfl, hS1⟩ a hF
      replace hS := hS.callB hS1 rfl; clear hS1
      replace hSS := hS.sub [3] (by decide) rfl (by simp)
      refine ⟨.inr hSS, ?_⟩
      refine ha_one 6 (by kernel_rfl) rfl (wn_none rfl) (wp_call (vs := [_, _]) hF rfl rfl rfl rfl cf25 (data_any (n2) (1 : Int) _ (by omega)) ?_)
      clear hF; rintro _ w ⟨rfl, hS1⟩ a hF
      replace hS := hS.callB hS1 rfl; clear hS1
      have hz705 := dataF_size (n2) (1 : Int)
      replace hSS := hS.sub [3] (by decide) rfl (by simp)
      refine ⟨.inr hSS, ?_⟩
      refine ha_one 7 (by kernel_rfl) rfl (wn_none rfl) (wp_call (vs := [_, _, _, _]) hF rfl rfl rfl rfl cf29 (write2_any st649 _ Lq651 (20 : Int) ((rnd (n1) ((((st649).size : Int) / 8)))) (dataF (n2) (1 : Int)) false _ (hS.rdRow 4 rfl) (by first | omega | (simp; done)) (by first | omega | (simp; done)) (by first | omega | (simp; done))) ?_)
      clear hF; rintro _ w ⟨st706, v707, Lq708, rm709, b710, rfl, hq711, hS1⟩ a hF
      replace hS := hS.callB hS1 rfl; clear hS1
      obtain ⟨Av707, cv707, rfl⟩ := hS.form 0 rfl
      have hq711b := writeF_bd hq711
      obtain ⟨rfl, -, -, hq711d, hq711s, rfl⟩ := (writeF_ok hq711).resolve_right (fun h9 => h9.2.1 (⟨hdr, okW_of (by unfold okS okI; omega) (by omega)⟩))
      have hq711i := okD_I hq711d
      replace hSS := hS.sub [4] (by decide) rfl (by simp)
      refine ⟨.inr hSS, ?_⟩
      refine ha_y 8 hF rfl rfl rfl (wn_none rfl) (.inr hSS) (yl_move hF rfl rfl) ?_
      clear hF; intro a hF
      refine ha_y 9 hF rfl rfl rfl (wn_none rfl) (.inr hSS) (yl_extract hF rfl rfl rfl) ?_
      clear hF; intro a hF
      refine ha_y 10 hF rfl rfl rfl (wn_none rfl) (.inr hSS) (yl_extract hF rfl rfl rfl) ?_
      clear hF; intro a hF
      refine ha_one 12 (by kernel_rfl) rfl (wn_none rfl) (wp_store (cs' := #[_, _, _]) hF hS rfl rfl rfl rfl 1 rfl sz24 (by simp [Value.cells, Value.oneCell']) (by simp [Value.cells]) rfl ?_)
      clear hF hS; intro a w hF hS
      replace hSS := hS.sub [4] (by decide) rfl (by simp)
      refine ⟨.inr hSS, ?_⟩
      refine ha_y 13 hF rfl rfl rfl (wn_none rfl) (.inr hSS) (yl_assign hF rfl rfl) ?_
      clear hF; intro a hF
      refine ha_done (by kernel_rfl) ?_ _
      refine cut_n ?_
      exact ⟨_, _, _, _, _, hq711, hq711d, hq711s, hF.to [0, 1, 2, 3, 4, 10, 11, 12, 13, 14] rfl, (hS.sub [1, 0, 2, 3, 4, 5, 6, 7] (by decide) (by first | rfl | simp) (by simp))⟩
  clear hF hS
  rintro a w ⟨st663, Lq665, g669, Av664, cv664, hcut660_0, hcut660_1, hcut660_2, hF, hS⟩
  have hq668 := hcut660_0; have hq668b := writeF_bd hq668
  have hq668d := hcut660_1; have hq668s := hcut660_2; have hq668i := okD_I hq668d
  refine then_n ?_
  refine c_seq ?_
  refine c_seq ?_
  refine c_region ?_
  have hll := wr_len (data8 _) hq668; have hC1 := okC_nil hq668d; have hCd := okC_nil hdr
  refine seq_yl hF (wn_none rfl) rfl rfl (yl_move hF rfl rfl) ?_
  clear hF; intro a hF
  refine seq_yl hF (wn_none rfl) rfl rfl (yl_un hF rfl rfl (fun _ => run_not)) ?_
  clear hF; intro a hF
  refine seq_yl hF (wn_none rfl) rfl rfl (yl_move hF rfl rfl) ?_
  clear hF; intro a hF
  refine seq_yl hF (wn_t hF rfl rfl rfl rfl) rfl rfl (yl_loadK (rs := [_, _, _]) (fun _ h => h ▸ hS) hF rfl rfl 4 rfl ag24 sz24 rfl rfl) ?_
  clear hF; intro a hF
  refine seq_yl hF (wn_t hF rfl rfl rfl rfl) rfl rfl (yl_move hF rfl rfl) ?_
  clear hF; intro a hF
  refine seq_wp (wn_t hF rfl rfl rfl rfl) (wp_call (vs := [_, _, _]) hF rfl rfl rfl rfl cf17 (perm_any st649 _ Lq651 (20 : Int) _ ([] : List E59) (chooseF st649 Lq651 ([] : List E59) (20 : Int) Pq656 Tq658) _ (hS.rdRow 5 rfl) (by first | omega | (simp; done)) (by first | omega | (simp; done)) (rd_nil _ 2 0 enc59) (by first | omega | (simp; done)) (by first | omega | (simp; done))) ?_)
  clear hF; rintro _ w ⟨bq712, rfl, hpm713, hS1⟩ a hF
  replace hS := hS.callB hS1 rfl; clear hS1
  replace hF := fr_set (b' := true) hF (hpm713.2 (perm_choose hCd))
  refine seq_yl hF (wn_t hF rfl rfl rfl rfl) rfl rfl (yl_un hF rfl rfl (fun _ => run_not)) ?_
  clear hF; intro a hF
  refine seq_yl hF (wn_none rfl) rfl rfl (yl_pick (u := _) (v := undef) hF rfl rfl (fun h => by cases h) (fun _ => rfl)) ?_
  clear hF; intro a hF
  refine seq_yl hF (wn_none rfl) rfl rfl (yl_move hF rfl rfl) ?_
  clear hF; intro a hF
  refine seq_yl hF (wn_t hF rfl rfl rfl rfl) rfl rfl (yl_loadK (rs := [_, _, _]) (fun _ h => h ▸ hS) hF rfl rfl 0 rfl ag24 sz24 rfl rfl) ?_
  clear hF; intro a hF
  refine seq_yl hF (wn_t hF rfl rfl rfl rfl) rfl rfl (yl_move hF rfl rfl) ?_
  clear hF; intro a hF
  refine seq_wp (wn_t hF rfl rfl rfl rfl) (wp_call (vs := [_, _, _]) hF rfl rfl rfl rfl cf17 (perm_any st663 _ Lq665 ((20 : Int)) _ ([] : List E59) (chooseF st649 Lq651 ([] : List E59) (20 : Int) Pq656 Tq658) _ (hS.rdRow 1 rfl) (by first | omega | (simp; done)) (by first | omega | (simp; done)) (rd_nil _ 2 0 enc59) (by first | omega | (simp; done)) (by first | omega | (simp; done))) ?_)
  clear hF; rintro _ w ⟨bq714, rfl, hpm715, hS1⟩ a hF
  replace hS := hS.callB hS1 rfl; clear hS1
  replace hF := fr_set (b' := true) hF (hpm715.2 (more_write (data8 _) (by omega) hq668 (perm_choose hCd)))
  refine seq_yl hF (wn_t hF rfl rfl rfl rfl) rfl rfl (yl_un hF rfl rfl (fun _ => run_not)) ?_
  clear hF; intro a hF
  refine seq_yl hF (wn_none rfl) rfl rfl (yl_pick (u := _) (v := undef) hF rfl rfl (fun h => by cases h) (fun _ => rfl)) ?_
  clear hF; intro a hF
  refine wpList_nil ?_
  refine then_n ?_
  refine c_cond_f hF rfl ?_
  refine wp_skip ?_
  refine then_n ?_
  refine c_seq ?_
  refine c_cut (fun a w => ∃ (st717 : ByteArray) (Lq719 : List E59) (g723 : Nat) (Av718 : Option Addr) (cv718 : Nat), (destF st663 Lq665 ((20 : Int)) ((rnd (n3) (((Lq665).length : Nat) : Int))) = (st717, Lq719, ((20 : Int)), true)) ∧ (okD st717 Lq719 ((20 : Int))) ∧ (((st717).size : Int) = ((st663).size : Int)) ∧ Fr 81 a [(0, .slice Aav (A).length cav), (1, .slice Abv (B).length cbv), (2, .int .i64 (n1)), (3, .int .i64 (n2)), (4, .int .i64 (n3)), (10, .bool false), (11, .pointer (some ⟨g654, 0, none⟩)), (12, .string (chooseF st649 Lq651 ([] : List E59) (20 : Int) Pq656 Tq658)), (13, .pointer (some ⟨g669, 0, none⟩)), (14, .bool true), (15, .pointer (some ⟨g723, 0, none⟩)), (16, .bool true)] ∧ Sat w0 w (.box g723 24 #[.string st717, .slice Av718 (Lq719).length cv718, .int .i64 (((20 : Int)))] :: .row 59 2 (.slice Av718 (Lq719).length cv718) (Lq719).length (cells enc59 (Lq719)) :: .box g669 24 #[.string st663, .slice Av664 (Lq665).length cv664, .int .i64 ((20 : Int))] :: .row 59 2 (.slice Av664 (Lq665).length cv664) (Lq665).length (cells enc59 (Lq665)) :: .row 3 1 (.slice Av655 (Pq656).length cv655) (Pq656).length (cells encI (Pq656)) :: .row 4 1 (.slice Av657 (Tq658).length cv657) (Tq658).length (cells encB (Tq658)) :: .box g654 24 #[.string st649, .slice Av650 (Lq651).length cv650, .int .i64 (20 : Int)] :: .row 59 2 (.slice Av650 (Lq651).length cv650) (Lq651).length (cells enc59 (Lq651)) :: .ro 1 (.slice Aav (A).length cav) (A).length (cells encI (A)) :: .ro 1 (.slice Abv (B).length cbv) (B).length (cells encI (B)) :: [])) ?_ ?_
  · skip
    refine ha_startS hS [0] 13 (by kernel_rfl) ?_; clear hS; intro w hS
    have hSS := hS.sub [0] (by decide) rfl (by simp)
    refine ha_y 1 hF rfl rfl rfl (wn_none rfl) (.inr hSS) (yl_move hF rfl rfl) ?_
    clear hF; intro a hF
    refine ha_y 2 hF rfl rfl rfl (wn_none rfl) (.inr hSS) (yl_fieldAddr hF rfl rfl (fun w => by kernel_rfl : ∀ w, (Instr.fieldAt 24 (.pointer (some ⟨g669, 0, none⟩)) 1).run Try.prog w = .ok (.pointer (some ⟨g669, 1, none⟩)) w)) ?_
    clear hF; intro a hF
    refine ha_l 0 hF rfl rfl rfl (wn_none rfl) hSS (yl_loadK (rs := [_, _, _]) (fun _ h => h) hF rfl rfl 0 rfl ag24 sz24 rfl rfl) ?_
    clear hF; intro a hF
    refine ha_l 3 hF rfl rfl rfl (wn_none rfl) hSS (yl_load (fun _ h => h) hF rfl rfl 0 rfl ag22 rfl) ?_
    clear hF; intro a hF
    refine ha_y 4 hF rfl rfl rfl (wn_none rfl) (.inr hSS) (yl_len hF rfl rfl (fun _ => run_lenRd sl22 (hS.rdRow 1 rfl))) ?_
    clear hF; intro a hF
    refine ha_all (rs := [5, 10]) (by kernel_rfl) (by simp) ?_
    refine List.forall_mem_cons.2 ⟨?_, List.forall_mem_cons.2 ⟨?_, (fun _ h => by cases h)⟩⟩
    · skip
      have hr724 := rnd_bounds (n3) (((Lq665).length : Nat) : Int) (by omega)
      refine ha_op 5 rfl (wn_none rfl) (wp_call (vs := [_, _]) hF rfl rfl rfl rfl cf24 (round_any (n3) (((Lq665).length : Nat) : Int) _ (by omega)) ?_)
      clear hF; rintro _ w ⟨rfl, hS1⟩ a hF
      replace hS := hS.callB hS1 rfl; clear hS1
      replace hSS := hS.sub [0] (by decide) rfl (by simp)
      refine ⟨.inr hSS, ?_⟩
      refine ha_all (rs := [6, 10]) (by kernel_rfl) (by simp) ?_
      refine List.forall_mem_cons.2 ⟨?_, List.forall_mem_cons.2 ⟨?_, (fun _ h => by cases h)⟩⟩
      · skip
        refine ha_op 6 rfl (wn_none rfl) (wp_call (vs := [_, _]) hF rfl rfl rfl rfl cf32 (dest2_any st663 _ Lq665 ((20 : Int)) ((rnd (n3) (((Lq665).length : Nat) : Int))) _ (hS.rdRow 1 rfl) (by first | omega | (simp; done)) (by first | omega | (simp; done))) ?_)
        clear hF; rintro _ w ⟨st725, v726, Lq727, rm728, b729, rfl, hq730, hS1⟩ a hF
        replace hS := hS.callB hS1 rfl; clear hS1
        obtain ⟨Av726, cv726, rfl⟩ := hS.form 0 rfl
        have hq730b := destF_bd hq730
        obtain ⟨rfl, -, -, -, hq730d, hq730s, rfl⟩ := (destF_ok hq730).resolve_right (fun h9 => h9.2.1 (⟨hq668d, by omega, by omega⟩))
        have hq730i := okD_I hq730d
        replace hSS := hS.sub [1] (by decide) rfl (by simp)
        refine ⟨.inr hSS, ?_⟩
        refine ha_y 7 hF rfl rfl rfl (wn_none rfl) (.inr hSS) (yl_move hF rfl rfl) ?_
        clear hF; intro a hF
        refine ha_y 8 hF rfl rfl rfl (wn_none rfl) (.inr hSS) (yl_extract hF rfl rfl rfl) ?_
        clear hF; intro a hF
        refine ha_y 9 hF rfl rfl rfl (wn_none rfl) (.inr hSS) (yl_extract hF rfl rfl rfl) ?_
        clear hF; intro a hF
        refine ha_one 10 (by kernel_rfl) rfl (wn_none rfl) (wp_alloc (cs := #[_, _, _]) hF hS rfl rfl rfl zr24 rfl ?_)
        clear hF hS; intro a w g731 hF hS
        replace hSS := hS.sub [2] (by decide) rfl (by simp)
        refine ⟨.inr hSS, ?_⟩
        refine ha_one 11 (by kernel_rfl) rfl (wn_none rfl) (wp_store (cs' := #[_, _, _]) hF hS rfl rfl rfl rfl 0 rfl sz24 (by simp [Value.cells, Value.oneCell']) (by simp [Value.cells]) rfl ?_)
        clear hF hS; intro a w hF hS
        replace hSS := hS.sub [2] (by decide) rfl (by simp)
        refine ⟨.inr hSS, ?_⟩
        refine ha_y 12 hF rfl rfl rfl (wn_none rfl) (.inr hSS) (yl_assign hF rfl rfl) ?_
        clear hF; intro a hF
        refine ha_done (by kernel_rfl) ?_ _
        refine cut_n ?_
        exact ⟨_, _, _, _, _, hq730, hq730d, hq730s, hF.to [0, 1, 2, 3, 4, 10, 11, 12, 13, 14, 15, 16] rfl, (hS.sub [0, 1, 2, 3, 4, 5, 6, 7, 8, 9] (by decide) (by first | rfl | simp) (by simp))⟩
      · skip
        refine ha_op 10 rfl (wn_none rfl) (wp_alloc (cs := #[_, _, _]) hF hS rfl rfl rfl zr24 rfl ?_)
        clear hF hS; intro a w g732 hF hS
        replace hSS := hS.sub [1] (by decide) rfl (by simp)
        refine ⟨.inr hSS, ?_⟩
        refine ha_one 6 (by kernel_rfl) rfl (wn_none rfl) (wp_call (vs := [_, _]) hF rfl rfl rfl rfl cf32 (dest2_any st663 _ Lq665 ((20 : Int)) ((rnd (n3) (((Lq665).length : Nat) : Int))) _ (hS.rdRow 2 rfl) (by first | omega | (simp; done)) (by first | omega | (simp; done))) ?_)
        clear hF; rintro _ w ⟨st733, v734, Lq735, rm736, b737, rfl, hq738, hS1⟩ a hF
        replace hS := hS.callB hS1 rfl; clear hS1
        obtain ⟨Av734, cv734, rfl⟩ := hS.form 0 rfl
        have hq738b := destF_bd hq738
        obtain ⟨rfl, -, -, -, hq738d, hq738s, rfl⟩ := (destF_ok hq738).resolve_right (fun h9 => h9.2.1 (⟨hq668d, by omega, by omega⟩))
        have hq738i := okD_I hq738d
        replace hSS := hS.sub [2] (by decide) rfl (by simp)
        refine ⟨.inr hSS, ?_⟩
        refine ha_y 7 hF rfl rfl rfl (wn_none rfl) (.inr hSS) (yl_move hF rfl rfl) ?_
        clear hF; intro a hF
        refine ha_y 8 hF rfl rfl rfl (wn_none rfl) (.inr hSS) (yl_extract hF rfl rfl rfl) ?_
        clear hF; intro a hF
        refine ha_y 9 hF rfl rfl rfl (wn_none rfl) (.inr hSS) (yl_extract hF rfl rfl rfl) ?_
        clear hF; intro a hF
        refine ha_one 11 (by kernel_rfl) rfl (wn_none rfl) (wp_store (cs' := #[_, _, _]) hF hS rfl rfl rfl rfl 1 rfl sz24 (by simp [Value.cells, Value.oneCell']) (by simp [Value.cells]) rfl ?_)
        clear hF hS; intro a w hF hS
        replace hSS := hS.sub [2] (by decide) rfl (by simp)
        refine ⟨.inr hSS, ?_⟩
        refine ha_y 12 hF rfl rfl rfl (wn_none rfl) (.inr hSS) (yl_assign hF rfl rfl) ?_
        clear hF; intro a hF
        refine ha_done (by kernel_rfl) ?_ _
        refine cut_n ?_
        exact ⟨_, _, _, _, _, hq738, hq738d, hq738s, hF.to [0, 1, 2, 3, 4, 10, 11, 12, 13, 14, 15, 16] rfl, (hS.sub [1, 0, 2, 3, 4, 5, 6, 7, 8, 9] (by decide) (by first | rfl | simp) (by simp))⟩
    · skip
      refine ha_op 10 rfl (wn_none rfl) (wp_alloc (cs := #[_, _, _]) hF hS rfl rfl rfl zr24 rfl ?_)
      clear hF hS; intro a w g739 hF hS
      replace hSS := hS.sub [1] (by decide) rfl (by simp)
      refine ⟨.inr hSS, ?_⟩
      have hr740 := rnd_bounds (n3) (((Lq665).length : Nat) : Int) (by omega)
      refine ha_one 5 (by kernel_rfl) rfl (wn_none rfl) (wp_call (vs := [_, _]) hF rfl rfl rfl rfl cf24 (round_any (n3) (((Lq665).length : Nat) : Int) _ (by omega)) ?_)
      clear hF; rintro _ w ⟨rfl, hS1⟩ a hF
      replace hS := hS.callB hS1 rfl; clear hS1
      replace hSS := hS.sub [1] (by decide) rfl (by simp)
      refine ⟨.inr hSS, ?_⟩
      refine ha_one 6 (by kernel_rfl) rfl (wn_none rfl) (wp_call (vs := [_, _]) hF rfl rfl rfl rfl cf32 (dest2_any st663 _ Lq665 ((20 : Int)) ((rnd (n3) (((Lq665).length : Nat) : Int))) _ (hS.rdRow 2 rfl) (by first | omega | (simp; done)) (by first | omega | (simp; done))) ?_)
      clear hF; rintro _ w ⟨st741, v742, Lq743, rm744, b745, rfl, hq746, hS1⟩ a hF
      replace hS := hS.callB hS1 rfl; clear hS1
      obtain ⟨Av742, cv742, rfl⟩ := hS.form 0 rfl
      have hq746b := destF_bd hq746
      obtain ⟨rfl, -, -, -, hq746d, hq746s, rfl⟩ := (destF_ok hq746).resolve_right (fun h9 => h9.2.1 (⟨hq668d, by omega, by omega⟩))
      have hq746i := okD_I hq746d
      replace hSS := hS.sub [2] (by decide) rfl (by simp)
      refine ⟨.inr hSS, ?_⟩
      refine ha_y 7 hF rfl rfl rfl (wn_none rfl) (.inr hSS) (yl_move hF rfl rfl) ?_
      clear hF; intro a hF
      refine ha_y 8 hF rfl rfl rfl (wn_none rfl) (.inr hSS) (yl_extract hF rfl rfl rfl) ?_
      clear hF; intro a hF
      refine ha_y 9 hF rfl rfl rfl (wn_none rfl) (.inr hSS) (yl_extract hF rfl rfl rfl) ?_
      clear hF; intro a hF
      refine ha_one 11 (by kernel_rfl) rfl (wn_none rfl) (wp_store (cs' := #[_, _, _]) hF hS rfl rfl rfl rfl 1 rfl sz24 (by simp [Value.cells, Value.oneCell']) (by simp [Value.cells]) rfl ?_)
      clear hF hS; intro a w hF hS
      replace hSS := hS.sub [2] (by decide) rfl (by simp)
      refine ⟨.inr hSS, ?_⟩
      refine ha_y 12 hF rfl rfl rfl (wn_none rfl) (.inr hSS) (yl_assign hF rfl rfl) ?_
      clear hF; intro a hF
      refine ha_done (by kernel_rfl) ?_ _
      refine cut_n ?_
      exact ⟨_, _, _, _, _, hq746, hq746d, hq746s, hF.to [0, 1, 2, 3, 4, 10, 11, 12, 13, 14, 15, 16] rfl, (hS.sub [1, 0, 2, 3, 4, 5, 6, 7, 8, 9] (by decide) (by first | rfl | simp) (by simp))⟩
  clear hF hS
  rintro a w ⟨st717, Lq719, g723, Av718, cv718, hcut715_0, hcut715_1, hcut715_2, hF, hS⟩
  have hq722 := hcut715_0; have hq722b := destF_bd hq722; have hq722d := hcut715_1; have hq722s := hcut715_2; have hq722i := okD_I hq722d
  refine then_n ?_
  refine c_seq ?_
  refine ha_startS hS [0] 5 (by kernel_rfl) ?_; clear hS; intro w hS
  have hSS := hS.sub [0] (by decide) rfl (by simp)
  have hCf := okC_nil hq722d
  refine ha_y 1 hF rfl rfl rfl (wn_none rfl) (.inr hSS) (yl_move hF rfl rfl) ?_
  clear hF; intro a hF
  refine ha_l 0 hF rfl rfl rfl (wn_none rfl) hSS (yl_loadK (rs := [_, _, _]) (fun _ h => h) hF rfl rfl 0 rfl ag24 sz24 rfl rfl) ?_
  clear hF; intro a hF
  refine ha_one 2 (by kernel_rfl) rfl (wn_none rfl) (wp_call (vs := [_]) hF rfl rfl rfl rfl cf22 (choice_any _ B _ (hS.rdRo 9 rfl) (by first | omega | (simp; done) | (simp; omega))) ?_)
  clear hF; rintro _ w ⟨v747, Pq748, v749, Tq750, rfl, hch751, hS1⟩ a hF
  replace hS := hS.callB hS1 rfl; clear hS1
  obtain ⟨Av747, cv747, rfl⟩ := hS.form 0 rfl
  obtain ⟨Av749, cv749, rfl⟩ := hS.form 1 rfl
  replace hSS := hS.sub [2] (by decide) rfl (by simp)
  refine ⟨.inr hSS, ?_⟩
  refine ha_one 3 (by kernel_rfl) rfl (wn_none rfl) (wp_call (vs := [_, _, _]) hF rfl rfl rfl rfl cf15 (choose_any st717 _ Lq719 (((20 : Int))) _ ([] : List E59) _ Pq748 _ Tq750 _ (hS.rdRow 3 rfl) (by first | omega | (simp; done)) (by first | omega | (simp; done)) (rd_nil _ 2 0 enc59) (by first | omega | (simp; done)) (hS.rdRow 0 rfl) (hS.rdRow 1 rfl) (by first | omega | (simp; done)) (by first | omega | (simp; done))) ?_)
  clear hF; rintro _ w ⟨rfl, hS1⟩ a hF
  replace hS := hS.callB hS1 rfl; clear hS1
  have hz752 := choose_bd st717 Lq719 ([] : List E59) (((20 : Int))) Pq748 Tq750
  replace hSS := hS.sub [2] (by decide) rfl (by simp)
  refine ⟨.inr hSS, ?_⟩
  refine ha_y 4 hF rfl rfl rfl (wn_none rfl) (.inr hSS) (yl_assign hF rfl rfl) ?_
  clear hF; intro a hF
  refine ha_done (by kernel_rfl) ?_ _
  refine then_n ?_
  refine c_seq ?_
  refine c_region ?_
  refine seq_yl hF (wn_none rfl) rfl rfl (yl_loadK (rs := [_, _, _]) (fun _ h => h ▸ hS) hF rfl rfl 4 rfl ag24 sz24 rfl rfl) ?_
  clear hF; intro a hF
  refine seq_wp (wn_none rfl) (wp_call (vs := [_]) hF rfl rfl rfl rfl cf28 (flush2_any st663 _ Lq665 ((20 : Int)) _ (hS.rdRow 5 rfl) (by first | omega | (simp; done)) (by first | omega | (simp; done))) ?_)
  clear hF; rintro _ w ⟨st753, rm754, v755, rfl, hq756, hE757, hS1⟩ a hF
  replace hS := hS.callB hS1 rfl; clear hS1
  have hq756b := flushF_bd hq756; replace hS := hS.addRo (hE757.rd enc59 2 _); obtain ⟨Av755, cv755, rfl⟩ := (hE757.rd enc59 2 w).form
  have hdf := (okD_flush hq668d hq756).1; have hfz := (okD_flush hq668d hq756).2; have hCl := okC_nil hdf
  refine seq_yl hF (wn_none rfl) rfl rfl (yl_move hF rfl rfl) ?_
  clear hF; intro a hF
  refine seq_wp (wn_none rfl) (wp_call (vs := [_]) hF rfl rfl rfl rfl cf22 (choice_any _ B _ (hS.rdRo 12 rfl) (by first | omega | (simp; done) | (simp; omega))) ?_)
  clear hF; rintro _ w ⟨v758, Pq759, v760, Tq761, rfl, hch762, hS1⟩ a hF
  replace hS := hS.callB hS1 rfl; clear hS1
  obtain ⟨Av758, cv758, rfl⟩ := hS.form 0 rfl
  obtain ⟨Av760, cv760, rfl⟩ := hS.form 1 rfl
  refine seq_wp (wn_none rfl) (wp_call (vs := [_, _, _]) hF rfl rfl rfl rfl cf15 (choose_any st753 _ ([] : List E59) (rm754) _ ([] : List E59) _ Pq759 _ Tq761 _ (hS.rdRo 2 rfl) (by first | omega | (simp; done)) (by first | omega | (simp; done)) (rd_nil _ 2 0 enc59) (by first | omega | (simp; done)) (hS.rdRow 0 rfl) (hS.rdRow 1 rfl) (by first | omega | (simp; done)) (by first | omega | (simp; done))) ?_)
  clear hF; rintro _ w ⟨rfl, hS1⟩ a hF
  replace hS := hS.callB hS1 rfl; clear hS1
  have hz763 := choose_bd st753 ([] : List E59) ([] : List E59) (rm754) Pq759 Tq761
  refine seq_yl hF (wn_none rfl) rfl rfl (yl_assign hF rfl rfl) ?_
  clear hF; intro a hF
  refine wpList_nil ?_
  refine then_n ?_
  refine c_seq ?_
  refine c_region ?_
  refine seq_yl hF (wn_none rfl) rfl rfl (yl_loadK (rs := [_, _, _]) (fun _ h => h ▸ hS) hF rfl rfl 7 rfl ag24 sz24 rfl rfl) ?_
  clear hF; intro a hF
  refine seq_yl hF (wn_none rfl) rfl rfl (yl_move hF rfl rfl) ?_
  clear hF; intro a hF
  refine seq_wp (wn_none rfl) (wp_call (vs := [_, _, _]) hF rfl rfl rfl rfl cf17 (perm_any st663 _ Lq665 ((20 : Int)) _ ([] : List E59) (chooseF st717 Lq719 ([] : List E59) (((20 : Int))) Pq748 Tq750) _ (hS.rdRow 8 rfl) (by first | omega | (simp; done)) (by first | omega | (simp; done)) (rd_nil _ 2 0 enc59) (by first | omega | (simp; done)) (by first | omega | (simp; done))) ?_)
  clear hF; rintro _ w ⟨bq764, rfl, hpm765, hS1⟩ a hF
  replace hS := hS.callB hS1 rfl; clear hS1
  replace hF := fr_set (b' := true) hF (hpm765.2 (more_dest hq722 (perm_choose hCf)))
  refine seq_yl hF (wn_none rfl) rfl rfl (yl_move hF rfl rfl) ?_
  clear hF; intro a hF
  refine seq_yl hF (wn_t hF rfl rfl rfl rfl) rfl rfl (yl_loadK (rs := [_, _, _]) (fun _ h => h ▸ hS) hF rfl rfl 7 rfl ag24 sz24 rfl rfl) ?_
  clear hF; intro a hF
  refine seq_yl hF (wn_t hF rfl rfl rfl rfl) rfl rfl (yl_move hF rfl rfl) ?_
  clear hF; intro a hF
  refine seq_wp (wn_t hF rfl rfl rfl rfl) (wp_call (vs := [_, _, _]) hF rfl rfl rfl rfl cf17 (perm_any st663 _ Lq665 ((20 : Int)) _ ([] : List E59) (chooseF st753 ([] : List E59) ([] : List E59) (rm754) Pq759 Tq761) _ (hS.rdRow 8 rfl) (by first | omega | (simp; done)) (by first | omega | (simp; done)) (rd_nil _ 2 0 enc59) (by first | omega | (simp; done)) (by first | omega | (simp; done))) ?_)
  clear hF; rintro _ w ⟨bq766, rfl, hpm767, hS1⟩ a hF
  replace hS := hS.callB hS1 rfl; clear hS1
  replace hF := fr_set (b' := true) hF (hpm767.2 (more_flush hq668d hq756 (perm_choose hCl)))
  refine seq_yl hF (wn_none rfl) rfl rfl (yl_pick (u := _) (v := undef) hF rfl rfl (fun _ => rfl) (fun h => by cases h)) ?_
  clear hF; intro a hF
  refine seq_yl hF (wn_none rfl) rfl rfl (yl_move hF rfl rfl) ?_
  clear hF; intro a hF
  refine seq_wp (wn_t hF rfl rfl rfl rfl) (wp_call (vs := []) hF rfl rfl rfl rfl cf19 (awake_any _) ?_)
  clear hF; rintro _ w ⟨rfl, hS1⟩ a hF
  replace hS := hS.callB hS1 rfl; clear hS1
  refine seq_yl hF (wn_none rfl) rfl rfl (yl_pick (u := _) (v := undef) hF rfl rfl (fun _ => rfl) (fun h => by cases h)) ?_
  clear hF; intro a hF
  refine seq_yl hF (wn_none rfl) rfl rfl (yl_assign hF rfl rfl) ?_
  clear hF; intro a hF
  refine wpList_nil ?_
  refine then_n ?_
  refine wp_ret ?_
  refine ret_t hF rfl rfl ?_
  exact ⟨_, rfl, rfl, (hS.sub [] (by decide) (by first | rfl | simp) (by simp))⟩

end Go.Proofs.Ytlhcpeolkkadbaa

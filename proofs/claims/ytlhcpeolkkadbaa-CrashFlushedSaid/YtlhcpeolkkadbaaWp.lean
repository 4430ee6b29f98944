/- walks, printed by wip/gen -/
import Derived.Test.YtlhcpeolkkadbaaWm
import Derived.Test.YtlhcpeolkkadbaaPE
import Derived.Test.YtlhcpeolkkadbaaW6
namespace Go.Proofs.Ytlhcpeolkkadbaa
open Go.RowKit
set_option linter.unusedVariables false
set_option linter.unusedSimpArgs false

set_option maxHeartbeats 1000000 in
set_option maxRecDepth 100000 in
theorem flushed_any (av : Value) (A : List Int) (bv : Value) (B : List Int) (n1 n2 : Int) (w0 : World) (hav : Rd w0 1 av (A).length (cells encI (A))) (hal : A.length ≤ 9223372036854775807) (hbv : Rd w0 1 bv (B).length (cells encI (B))) (hbl : B.length ≤ 9223372036854775807) :
    Fn Try.prog 7 #[av, bv, .int .i64 n1, .int .i64 n2] w0 (fun v w' => v = .bool true ∧ Sat w0 w' []) := by
  obtain ⟨Aav, cav, rfl⟩ := Rd.form hav
  obtain ⟨Abv, cbv, rfl⟩ := Rd.form hbv
  refine c_enter (N := 70) (l := [_, _, _, _]) Try.func7 rfl rfl (fun a w hF hS => ?_)
  replace hS := hS.addRo hbv
  replace hS := hS.addRo hav
  refine c_seq ?_
  refine c_region ?_
  refine seq_yl hF (wn_none rfl) rfl rfl (yl_assign hF rfl rfl) ?_
  clear hF; intro a hF
  refine wpList_nil ?_
  refine then_n ?_
  refine c_seq ?_
  refine c_region ?_
  refine seq_yl hF (wn_none rfl) rfl rfl (yl_move hF rfl rfl) ?_
  clear hF; intro a hF
  refine seq_wp (wn_none rfl) (wp_call (vs := [_]) hF rfl rfl rfl rfl cf20 (drive_any _ A _ (hS.rdRo 0 rfl) (by first | omega | (simp; done) | (simp; omega))) ?_)
  clear hF; rintro _ w ⟨st556, v557, Lq558, rm559, rfl, hd560, hS1⟩ a hF
  replace hS := hS.callB hS1 rfl; clear hS1
  obtain ⟨Av557, cv557, rfl⟩ := hS.form 0 rfl
  obtain ⟨hd560d, hd560s⟩ := hd560; have hd560i := okD_I hd560d
  refine seq_wp (wn_none rfl) (wp_alloc (cs := #[_, _, _]) hF hS rfl rfl rfl zr24 rfl ?_)
  clear hF hS; intro a w g561 hF hS
  refine seq_wp (wn_none rfl) (wp_store (cs' := #[_, _, _]) hF hS rfl rfl rfl rfl 0 rfl sz24 (by simp [Value.cells, Value.oneCell']) (by simp [Value.cells]) rfl ?_)
  clear hF hS; intro a w hF hS
  refine wpList_nil ?_
  refine then_n ?_
  refine c_seq ?_
  refine c_region ?_
  refine seq_yl hF (wn_none rfl) rfl rfl (yl_move hF rfl rfl) ?_
  clear hF; intro a hF
  refine seq_wp (wn_none rfl) (wp_call (vs := [_]) hF rfl rfl rfl rfl cf22 (choice_any _ B _ (hS.rdRo 3 rfl) (by first | omega | (simp; done) | (simp; omega))) ?_)
  clear hF; rintro _ w ⟨v562, Pq563, v564, Tq565, rfl, hch566, hS1⟩ a hF
  replace hS := hS.callB hS1 rfl; clear hS1
  obtain ⟨Av562, cv562, rfl⟩ := hS.form 0 rfl
  obtain ⟨Av564, cv564, rfl⟩ := hS.form 1 rfl
  refine seq_wp (wn_none rfl) (wp_alloc (cs := #[_, _]) hF hS rfl rfl rfl zr28 rfl ?_)
  clear hF hS; intro a w g567 hF hS
  refine seq_wp (wn_none rfl) (wp_store (cs' := #[_, _]) hF hS rfl rfl rfl rfl 0 rfl sz28 (by simp [Value.cells, Value.oneCell']) (by simp [Value.cells]) rfl ?_)
  clear hF hS; intro a w hF hS
  refine wpList_nil ?_
  refine then_n ?_
  refine c_seq ?_
  refine c_region ?_
  refine seq_yl hF (wn_none rfl) rfl rfl (yl_loadK (rs := [_, _, _]) (fun _ h => h ▸ hS) hF rfl rfl 3 rfl ag24 sz24 rfl rfl) ?_
  clear hF; intro a hF
  refine seq_wp (wn_none rfl) (wp_call (vs := [_]) hF rfl rfl rfl rfl cf28 (flush2_any st556 _ Lq558 (rm559) _ (hS.rdRow 4 rfl) (by first | omega | (simp; done)) (by first | omega | (simp; done))) ?_)
  clear hF; rintro _ w ⟨st568, rm569, v570, rfl, hq571, hE572, hS1⟩ a hF
  replace hS := hS.callB hS1 rfl; clear hS1
  have hq571b := flushF_bd hq571; replace hS := hS.addRo (hE572.rd enc59 2 _); obtain ⟨Av570, cv570, rfl⟩ := (hE572.rd enc59 2 w).form
  refine seq_wp (wn_none rfl) (wp_alloc (cs := #[_, _, _]) hF hS rfl rfl rfl zr24 rfl ?_)
  clear hF hS; intro a w g573 hF hS
  refine seq_wp (wn_none rfl) (wp_store (cs' := #[_, _, _]) hF hS rfl rfl rfl rfl 0 rfl sz24 (by simp [Value.cells, Value.oneCell']) (by simp [Value.cells]) rfl ?_)
  clear hF hS; intro a w hF hS
  refine wpList_nil ?_
  refine then_n ?_
  refine c_seq ?_
  refine c_region ?_
  have hdf := (okD_flush hd560d hq571).1; have hfz := (okD_flush hd560d hq571).2
  refine seq_yl hF (wn_none rfl) rfl rfl (yl_move hF rfl rfl) ?_
  clear hF; intro a hF
  refine seq_yl hF (wn_none rfl) rfl rfl (yl_loadK (rs := [_, _, _]) (fun _ h => h ▸ hS) hF rfl rfl 5 rfl ag24 sz24 rfl rfl) ?_
  clear hF; intro a hF
  refine seq_wp (wn_none rfl) (wp_call (vs := [_]) hF rfl rfl rfl rfl cf27 (secs_any st556 _ _ _ (by omega)) ?_)
  clear hF; rintro _ w ⟨rfl, hS1⟩ a hF
  replace hS := hS.callB hS1 rfl; clear hS1
  have hr574 := rnd_bounds (n1) ((((st556).size : Int) / 8)) (by omega)
  refine seq_wp (wn_none rfl) (wp_call (vs := [_, _]) hF rfl rfl rfl rfl cf24 (round_any (n1) ((((st556).size : Int) / 8)) _ (by omega)) ?_)
  clear hF; rintro _ w ⟨rfl, hS1⟩ a hF
  replace hS := hS.callB hS1 rfl; clear hS1
  refine seq_yl hF (wn_none rfl) rfl rfl (yl_assign hF rfl rfl) ?_
  clear hF; intro a hF
  refine wpList_nil ?_
  refine then_n ?_
  refine c_seq ?_
  refine ha_startS hS [5] 11 (by kernel_rfl) ?_; clear hS; intro w hS
  have hSS := hS.sub [5] (by decide) rfl (by simp)
  refine ha_y 1 hF rfl rfl rfl (wn_none rfl) (.inr hSS) (yl_move hF rfl rfl) ?_
  clear hF; intro a hF
  refine ha_y 2 hF rfl rfl rfl (wn_none rfl) (.inr hSS) (yl_move hF rfl rfl) ?_
  clear hF; intro a hF
  refine ha_l 0 hF rfl rfl rfl (wn_none rfl) hSS (yl_loadK (rs := [_, _, _]) (fun _ h => h) hF rfl rfl 0 rfl ag24 sz24 rfl rfl) ?_
  clear hF; intro a hF
  refine ha_all (rs := [3, 8]) (by kernel_rfl) (by simp) ?_
  refine List.forall_mem_cons.2 ⟨?_, List.forall_mem_cons.2 ⟨?_, (fun _ h => by cases h)⟩⟩
  · skip
    refine ha_op 3 rfl (wn_none rfl) (wp_call (vs := [_, _]) hF rfl rfl rfl rfl cf25 (data_any (n2) (1 : Int) _ (by omega)) ?_)
    clear hF; rintro _ w ⟨rfl, hS1⟩ a hF
    replace hS := hS.callB hS1 rfl; clear hS1
    have hz575 := dataF_size (n2) (1 : Int)
    replace hSS := hS.sub [5] (by decide) rfl (by simp)
    refine ⟨.inr hSS, ?_⟩
    refine ha_all (rs := [4, 8]) (by kernel_rfl) (by simp) ?_
    refine List.forall_mem_cons.2 ⟨?_, List.forall_mem_cons.2 ⟨?_, (fun _ h => by cases h)⟩⟩
    · skip
      refine ha_op 4 rfl (wn_none rfl) (wp_call (vs := [_, _, _, _]) hF rfl rfl rfl rfl cf29 (write2_any st556 _ Lq558 (rm559) ((rnd (n1) ((((st556).size : Int) / 8)))) (dataF (n2) (1 : Int)) true _ (hS.rdRow 6 rfl) (by first | omega | (simp; done)) (by first | omega | (simp; done)) (by first | omega | (simp; done))) ?_)
      clear hF; rintro _ w ⟨st576, v577, Lq578, rm579, b580, rfl, hq581, hS1⟩ a hF
      replace hS := hS.callB hS1 rfl; clear hS1
      obtain ⟨Av577, cv577, rfl⟩ := hS.form 0 rfl
      have hq581b := writeF_bd hq581
      obtain ⟨rfl, -, -, hq581d, hq581s, rfl⟩ := (writeF_ok hq581).resolve_right (fun h9 => h9.2.1 (⟨hd560d, okW_of (by unfold okS okI; omega) (by omega)⟩))
      have hq581i := okD_I hq581d
      replace hSS := hS.sub [6] (by decide) rfl (by simp)
      refine ⟨.inr hSS, ?_⟩
      refine ha_y 5 hF rfl rfl rfl (wn_none rfl) (.inr hSS) (yl_move hF rfl rfl) ?_
      clear hF; intro a hF
      refine ha_y 6 hF rfl rfl rfl (wn_none rfl) (.inr hSS) (yl_extract hF rfl rfl rfl) ?_
      clear hF; intro a hF
      refine ha_y 7 hF rfl rfl rfl (wn_none rfl) (.inr hSS) (yl_extract hF rfl rfl rfl) ?_
      clear hF; intro a hF
      refine ha_one 8 (by kernel_rfl) rfl (wn_none rfl) (wp_alloc (cs := #[_, _, _]) hF hS rfl rfl rfl zr24 rfl ?_)
      clear hF hS; intro a w g582 hF hS
      replace hSS := hS.sub [7] (by decide) rfl (by simp)
      refine ⟨.inr hSS, ?_⟩
      refine ha_one 9 (by kernel_rfl) rfl (wn_none rfl) (wp_store (cs' := #[_, _, _]) hF hS rfl rfl rfl rfl 0 rfl sz24 (by simp [Value.cells, Value.oneCell']) (by simp [Value.cells]) rfl ?_)
      clear hF hS; intro a w hF hS
      replace hSS := hS.sub [7] (by decide) rfl (by simp)
      refine ⟨.inr hSS, ?_⟩
      refine ha_y 10 hF rfl rfl rfl (wn_none rfl) (.inr hSS) (yl_assign hF rfl rfl) ?_
      clear hF; intro a hF
      refine ha_done (by kernel_rfl) ?_ _
      refine then_n ?_
      refine c_seq ?_
      refine c_region ?_
      have hCw : okC st576 Lq578 [] (rm559) := okC_nil hq581d; have hcz := choose_size (P := Pq563) (T := Tq565) hCw
      refine seq_yl hF (wn_none rfl) rfl rfl (yl_loadK (rs := [_, _, _]) (fun _ h => h ▸ hS) hF rfl rfl 0 rfl ag24 sz24 rfl rfl) ?_
      clear hF; intro a hF
      refine seq_yl hF (wn_none rfl) rfl rfl (yl_loadK (rs := [_, _]) (fun _ h => h ▸ hS) hF rfl rfl 4 rfl ag28 sz28 rfl rfl) ?_
      clear hF; intro a hF
      refine seq_wp (wn_none rfl) (wp_call (vs := [_, _, _]) hF rfl rfl rfl rfl cf15 (choose_any st576 _ Lq578 ((rm559)) _ ([] : List E59) _ Pq563 _ Tq565 _ (hS.rdRow 1 rfl) (by first | omega | (simp; done)) (by first | omega | (simp; done)) (rd_nil _ 2 0 enc59) (by first | omega | (simp; done)) (hS.rdRow 5 rfl) (hS.rdRow 6 rfl) (by first | omega | (simp; done)) (by first | omega | (simp; done))) ?_)
      clear hF; rintro _ w ⟨rfl, hS1⟩ a hF
      replace hS := hS.callB hS1 rfl; clear hS1
      have hz583 := choose_bd st576 Lq578 ([] : List E59) ((rm559)) Pq563 Tq565
      refine seq_yl hF (wn_none rfl) rfl rfl (yl_move hF rfl rfl) ?_
      clear hF; intro a hF
      refine seq_wp (wn_none rfl) (wp_call (vs := [_, _, _]) hF rfl rfl rfl rfl cf26 (imRead2_any (chooseF st576 Lq578 ([] : List E59) ((rm559)) Pq563 Tq565) ((rnd (n1) ((((st556).size : Int) / 8)))) (1 : Int) _ (by omega)) ?_)
      clear hF; rintro _ w ⟨xs584, e585, rfl, hsp586, hS1⟩ a hF
      replace hS := hS.callB hS1 rfl; clear hS1
      have hsp586z := fun h9 : okS (((chooseF st576 Lq578 ([] : List E59) ((rm559)) Pq563 Tq565)).size : Int) ((rnd (n1) ((((st556).size : Int) / 8)))) (1 : Int) => subs_size (s := (chooseF st576 Lq578 ([] : List E59) ((rm559)) Pq563 Tq565)) (i := ((rnd (n1) ((((st556).size : Int) / 8)))) * 8) (j := (((rnd (n1) ((((st556).size : Int) / 8)))) + (1 : Int)) * 8) (by unfold okS at h9; omega) (by unfold okS at h9; omega) (by unfold okS okI at h9; omega)
      obtain ⟨hk587, rfl, rfl⟩ := hsp586.resolve_right (fun h9 => h9.1 ((by unfold okS okI; omega)))
      try (have hk587x := hk587; simp only [okS, okI, okW, okP] at hk587x)
      refine seq_yl hF (wn_none rfl) rfl rfl (yl_move hF rfl rfl) ?_
      clear hF; intro a hF
      refine seq_yl hF (wn_none rfl) rfl rfl (yl_extract hF rfl rfl rfl) ?_
      clear hF; intro a hF
      refine seq_yl hF (wn_none rfl) rfl rfl (yl_extract hF rfl rfl rfl) ?_
      clear hF; intro a hF
      refine seq_yl hF (wn_none rfl) rfl rfl (yl_assign hF rfl rfl) ?_
      clear hF; intro a hF
      refine seq_yl hF (wn_none rfl) rfl rfl (yl_assign hF rfl rfl) ?_
      clear hF; intro a hF
      refine wpList_nil ?_
      refine then_n ?_
      refine c_seq ?_
      refine ha_startS hS [2, 4] 28 (by kernel_rfl) ?_; clear hS; intro w hS
      have hSS := hS.sub [2, 4] (by decide) rfl (by simp)
      refine ha_y 0 hF rfl rfl rfl (wn_none rfl) (.inr hSS) (yl_move hF rfl rfl) ?_
      clear hF; intro a hF
      refine ha_y 1 hF rfl rfl rfl (wn_none rfl) (.inr hSS) (yl_move hF rfl rfl) ?_
      clear hF; intro a hF
      refine ha_y 2 hF rfl rfl rfl (wn_t hF rfl rfl rfl rfl) (.inr hSS) (yl_move hF rfl rfl) ?_
      clear hF; intro a hF
      refine ha_y 3 hF rfl rfl rfl (wn_none rfl) (.inr hSS) (yl_pick (u := _) (v := undef) hF rfl rfl (fun _ => rfl) (fun h => by cases h)) ?_
      clear hF; intro a hF
      refine ha_y 4 hF rfl rfl rfl (wn_none rfl) (.inr hSS) (yl_move hF rfl rfl) ?_
      clear hF; intro a hF
      refine ha_y 5 hF rfl rfl rfl (wn_t hF rfl rfl rfl rfl) (.inr hSS) (yl_move hF rfl rfl) ?_
      clear hF; intro a hF
      refine ha_y 6 hF rfl rfl rfl (wn_t hF rfl rfl rfl rfl) (.inr hSS) (yl_move hF rfl rfl) ?_
      clear hF; intro a hF
      refine ha_one 7 (by kernel_rfl) rfl (wn_t hF rfl rfl rfl rfl) (wp_call (vs := [_, _]) hF rfl rfl rfl rfl cf25 (data_any (n2) (1 : Int) _ (by omega)) ?_)
      clear hF; rintro _ w ⟨rfl, hS1⟩ a hF
      replace hS := hS.callB hS1 rfl; clear hS1
      have hz588 := dataF_size (n2) (1 : Int)
      replace hSS := hS.sub [2, 4] (by decide) rfl (by simp)
      refine ⟨.inr hSS, ?_⟩
      refine ha_y 8 hF rfl rfl rfl (wn_t hF rfl rfl rfl rfl) (.inr hSS) (yl_bin hF rfl rfl rfl rfl (fun _ => run_str_eql)) ?_
      clear hF; intro a hF
      replace hF := fr_set (b' := true) hF (by rw [decide_eq_true_eq]; exact fl_thr (data8 _) hq581)
      refine ha_y 9 hF rfl rfl rfl (wn_none rfl) (.inr hSS) (yl_pick (u := _) (v := undef) hF rfl rfl (fun _ => rfl) (fun h => by cases h)) ?_
      clear hF; intro a hF
      refine ha_y 10 hF rfl rfl rfl (wn_none rfl) (.inr hSS) (yl_move hF rfl rfl) ?_
      clear hF; intro a hF
      refine ha_y 14 hF rfl rfl rfl (wn_t hF rfl rfl rfl rfl) (.inr hSS) (yl_fieldAddr hF rfl rfl (fun w => by kernel_rfl : ∀ w, (Instr.fieldAt 24 (.pointer (some ⟨g573, 0, none⟩)) 0).run Try.prog w = .ok (.pointer (some ⟨g573, 0, none⟩)) w)) ?_
      clear hF; intro a hF
      refine ha_l 11 hF rfl rfl rfl (wn_t hF rfl rfl rfl rfl) hSS (yl_loadK (rs := [_, _, _]) (fun _ h => h) hF rfl rfl 0 rfl ag24 sz24 rfl rfl) ?_
      clear hF; intro a hF
      refine ha_l 12 hF rfl rfl rfl (wn_t hF rfl rfl rfl rfl) hSS (yl_loadK (rs := [_, _]) (fun _ h => h) hF rfl rfl 1 rfl ag28 sz28 rfl rfl) ?_
      clear hF; intro a hF
      refine ha_l 15 hF rfl rfl rfl (wn_t hF rfl rfl rfl rfl) hSS (yl_load (fun _ h => h) hF rfl rfl 0 rfl ag9 rfl) ?_
      clear hF; intro a hF
      refine ha_one 13 (by kernel_rfl) rfl (wn_t hF rfl rfl rfl rfl) (wp_call (vs := [_, _, _]) hF rfl rfl rfl rfl cf15 (choose_any st568 _ ([] : List E59) (rm569) _ ([] : List E59) _ Pq563 _ Tq565 _ (hS.rdRo 3 rfl) (by first | omega | (simp; done)) (by first | omega | (simp; done)) (rd_nil _ 2 0 enc59) (by first | omega | (simp; done)) (hS.rdRow 5 rfl) (hS.rdRow 6 rfl) (by first | omega | (simp; done)) (by first | omega | (simp; done))) ?_)
      clear hF; rintro _ w ⟨rfl, hS1⟩ a hF
      replace hS := hS.callB hS1 rfl; clear hS1
      have hz589 := choose_bd st568 ([] : List E59) ([] : List E59) (rm569) Pq563 Tq565
      replace hSS := hS.sub [2, 4] (by decide) rfl (by simp)
      refine ⟨.inr hSS, ?_⟩
      refine ha_y 16 hF rfl rfl rfl (wn_t hF rfl rfl rfl rfl) (.inr hSS) (yl_bin hF rfl rfl rfl rfl (fun _ => run_str_eql)) ?_
      clear hF; intro a hF
      replace hF := fr_set (b' := true) hF (by rw [decide_eq_true_eq]; exact choose_empty hdf)
      refine ha_y 17 hF rfl rfl rfl (wn_none rfl) (.inr hSS) (yl_pick (u := _) (v := undef) hF rfl rfl (fun _ => rfl) (fun h => by cases h)) ?_
      clear hF; intro a hF
      refine ha_y 18 hF rfl rfl rfl (wn_none rfl) (.inr hSS) (yl_move hF rfl rfl) ?_
      clear hF; intro a hF
      refine ha_l 19 hF rfl rfl rfl (wn_t hF rfl rfl rfl rfl) hSS (yl_loadK (rs := [_, _, _]) (fun _ h => h) hF rfl rfl 0 rfl ag24 sz24 rfl rfl) ?_
      clear hF; intro a hF
      refine ha_one 20 (by kernel_rfl) rfl (wn_t hF rfl rfl rfl rfl) (wp_call (vs := [_, _]) hF rfl rfl rfl rfl cf13 (csecF_any st568 _ ([] : List E59) (rm569) _ ([] : List E59) _ (hS.rdRo 3 rfl) (by first | omega | (simp; done)) (by first | omega | (simp; done)) (rd_nil _ 2 0 enc59) (by first | omega | (simp; done))) ?_)
      clear hF; rintro _ w ⟨v590, M591, rfl, hM592, hS1⟩ a hF
      replace hS := hS.callB hS1 rfl; clear hS1
      obtain ⟨Av590, cv590, rfl⟩ := hS.form 0 rfl
      have hM592l := secF_len st568 ([] : List E59) ([] : List E59) (rm569); rw [← hM592] at hM592l
      replace hSS := hS.sub [3, 5] (by decide) rfl (by simp)
      refine ⟨.inr hSS, ?_⟩
      refine ha_y 21 hF rfl rfl rfl (wn_t hF rfl rfl rfl rfl) (.inr hSS) (yl_len hF rfl rfl (fun _ => run_lenRd sl25 (hS.rdRow 0 rfl))) ?_
      clear hF; intro a hF
      refine ha_y 22 hF rfl rfl rfl (wn_t hF rfl rfl rfl rfl) (.inr hSS) (yl_bin hF rfl rfl rfl rfl (fun _ => run_eql)) ?_
      clear hF; intro a hF
      replace hF := fr_set (b' := true) hF (by rw [decide_eq_true_eq, hM592, secF_nil]; rfl)
      refine ha_y 23 hF rfl rfl rfl (wn_none rfl) (.inr hSS) (yl_pick (u := _) (v := undef) hF rfl rfl (fun _ => rfl) (fun h => by cases h)) ?_
      clear hF; intro a hF
      refine ha_y 24 hF rfl rfl rfl (wn_none rfl) (.inr hSS) (yl_move hF rfl rfl) ?_
      clear hF; intro a hF
      refine ha_one 25 (by kernel_rfl) rfl (wn_t hF rfl rfl rfl rfl) (wp_call (vs := []) hF rfl rfl rfl rfl cf19 (awake_any _) ?_)
      clear hF; rintro _ w ⟨rfl, hS1⟩ a hF
      replace hS := hS.callB hS1 rfl; clear hS1
      replace hSS := hS.sub [3, 5] (by decide) rfl (by simp)
      refine ⟨.inr hSS, ?_⟩
      refine ha_y 26 hF rfl rfl rfl (wn_none rfl) (.inr hSS) (yl_pick (u := _) (v := undef) hF rfl rfl (fun _ => rfl) (fun h => by cases h)) ?_
      clear hF; intro a hF
      refine ha_y 27 hF rfl rfl rfl (wn_none rfl) (.inr hSS) (yl_assign hF rfl rfl) ?_
      clear hF; intro a hF
      refine ha_done (by kernel_rfl) ?_ _
      refine then_n ?_
      refine wp_ret ?_
      refine ret_t hF rfl rfl ?_
      exact ⟨_, rfl, rfl, (hS.sub [] (by decide) (by first | rfl | simp) (by simp))⟩
    · skip
      refine ha_op 8 rfl (wn_none rfl) (wp_alloc (cs := #[_, _, _]) hF hS rfl rfl rfl zr24 rfl ?_)
      clear hF hS; intro a w g593 hF hS
      replace hSS := hS.sub [6] (by decide) rfl (by simp)
      refine ⟨.inr hSS, ?_⟩
      refine ha_one 4 (by kernel_rfl) rfl (wn_none rfl) (wp_call (vs := [_, _, _, _]) hF rfl rfl rfl rfl cf29 (write2_any st556 _ Lq558 (rm559) ((rnd (n1) ((((st556).size : Int) / 8)))) (dataF (n2) (1 : Int)) true _ (hS.rdRow 7 rfl) (by first | omega | (simp; done)) (by first | omega | (simp; done)) (by first | omega | (simp; done))) ?_)
      clear hF; rintro _ w ⟨st594, v595, Lq596, rm597, b598, rfl, hq599, hS1⟩ a hF
      replace hS := hS.callB hS1 rfl; clear hS1
      obtain ⟨Av595, cv595, rfl⟩ := hS.form 0 rfl
      have hq599b := writeF_bd hq599
      obtain ⟨rfl, -, -, hq599d, hq599s, rfl⟩ := (writeF_ok hq599).resolve_right (fun h9 => h9.2.1 (⟨hd560d, okW_of (by unfold okS okI; omega) (by omega)⟩))
      have hq599i := okD_I hq599d
      replace hSS := hS.sub [7] (by decide) rfl (by simp)
      refine ⟨.inr hSS, ?_⟩
      refine ha_y 5 hF rfl rfl rfl (wn_none rfl) (.inr hSS) (yl_move hF rfl rfl) ?_
      clear hF; intro a hF
      refine ha_y 6 hF rfl rfl rfl (wn_none rfl) (.inr hSS) (yl_extract hF rfl rfl rfl) ?_
      clear hF; intro a hF
      refine ha_y 7 hF rfl rfl rfl (wn_none rfl) (.inr hSS) (yl_extract hF rfl rfl rfl) ?_
      clear hF; intro a hF
      refine ha_one 9 (by kernel_rfl) rfl (wn_none rfl) (wp_store (cs' := #[_, _, _]) hF hS rfl rfl rfl rfl 1 rfl sz24 (by simp [Value.cells, Value.oneCell']) (by simp [Value.cells]) rfl ?_)
      clear hF hS; intro a w hF hS
      replace hSS := hS.sub [7] (by decide) rfl (by simp)
      refine ⟨.inr hSS, ?_⟩
      refine ha_y 10 hF rfl rfl rfl (wn_none rfl) (.inr hSS) (yl_assign hF rfl rfl) ?_
      clear hF; intro a hF
      refine ha_done (by kernel_rfl) ?_ _
      refine then_n ?_
      refine c_seq ?_
      refine c_region ?_
      have hCw : okC st594 Lq596 [] (rm559) := okC_nil hq599d; have hcz := choose_size (P := Pq563) (T := Tq565) hCw
      refine seq_yl hF (wn_none rfl) rfl rfl (yl_loadK (rs := [_, _, _]) (fun _ h => h ▸ hS) hF rfl rfl 1 rfl ag24 sz24 rfl rfl) ?_
      clear hF; intro a hF
      refine seq_yl hF (wn_none rfl) rfl rfl (yl_loadK (rs := [_, _]) (fun _ h => h ▸ hS) hF rfl rfl 4 rfl ag28 sz28 rfl rfl) ?_
      clear hF; intro a hF
      refine seq_wp (wn_none rfl) (wp_call (vs := [_, _, _]) hF rfl rfl rfl rfl cf15 (choose_any st594 _ Lq596 ((rm559)) _ ([] : List E59) _ Pq563 _ Tq565 _ (hS.rdRow 0 rfl) (by first | omega | (simp; done)) (by first | omega | (simp; done)) (rd_nil _ 2 0 enc59) (by first | omega | (simp; done)) (hS.rdRow 5 rfl) (hS.rdRow 6 rfl) (by first | omega | (simp; done)) (by first | omega | (simp; done))) ?_)
      clear hF; rintro _ w ⟨rfl, hS1⟩ a hF
      replace hS := hS.callB hS1 rfl; clear hS1
      have hz600 := choose_bd st594 Lq596 ([] : List E59) ((rm559)) Pq563 Tq565
      refine seq_yl hF (wn_none rfl) rfl rfl (yl_move hF rfl rfl) ?_
      clear hF; intro a hF
      refine seq_wp (wn_none rfl) (wp_call (vs := [_, _, _]) hF rfl rfl rfl rfl cf26 (imRead2_any (chooseF st594 Lq596 ([] : List E59) ((rm559)) Pq563 Tq565) ((rnd (n1) ((((st556).size : Int) / 8)))) (1 : Int) _ (by omega)) ?_)
      clear hF; rintro _ w ⟨xs601, e602, rfl, hsp603, hS1⟩ a hF
      replace hS := hS.callB hS1 rfl; clear hS1
      have hsp603z := fun h9 : okS (((chooseF st594 Lq596 ([] : List E59) ((rm559)) Pq563 Tq565)).size : Int) ((rnd (n1) ((((st556).size : Int) / 8)))) (1 : Int) => subs_size (s := (chooseF st594 Lq596 ([] : List E59) ((rm559)) Pq563 Tq565)) (i := ((rnd (n1) ((((st556).size : Int) / 8)))) * 8) (j := (((rnd (n1) ((((st556).size : Int) / 8)))) + (1 : Int)) * 8) (by unfold okS at h9; omega) (by unfold okS at h9; omega) (by unfold okS okI at h9; omega)
      obtain ⟨hk604, rfl, rfl⟩ := hsp603.resolve_right (fun h9 => h9.1 ((by unfold okS okI; omega)))
      try (have hk604x := hk604; simp only [okS, okI, okW, okP] at hk604x)
      refine seq_yl hF (wn_none rfl) rfl rfl (yl_move hF rfl rfl) ?_
      clear hF; intro a hF
      refine seq_yl hF (wn_none rfl) rfl rfl (yl_extract hF rfl rfl rfl) ?_
      clear hF; intro a hF
      refine seq_yl hF (wn_none rfl) rfl rfl (yl_extract hF rfl rfl rfl) ?_
      clear hF; intro a hF
      refine seq_yl hF (wn_none rfl) rfl rfl (yl_assign hF rfl rfl) ?_
      clear hF; intro a hF
      refine seq_yl hF (wn_none rfl) rfl rfl (yl_assign hF rfl rfl) ?_
      clear hF; intro a hF
      refine wpList_nil ?_
      refine then_n ?_
      refine c_seq ?_
      refine ha_startS hS [2, 4] 28 (by kernel_rfl) ?_; clear hS; intro w hS
      have hSS := hS.sub [2, 4] (by decide) rfl (by simp)
      refine ha_y 0 hF rfl rfl rfl (wn_none rfl) (.inr hSS) (yl_move hF rfl rfl) ?_
      clear hF; intro a hF
      refine ha_y 1 hF rfl rfl rfl (wn_none rfl) (.inr hSS) (yl_move hF rfl rfl) ?_
      clear hF; intro a hF
      refine ha_y 2 hF rfl rfl rfl (wn_t hF rfl rfl rfl rfl) (.inr hSS) (yl_move hF rfl rfl) ?_
      clear hF; intro a hF
      refine ha_y 3 hF rfl rfl rfl (wn_none rfl) (.inr hSS) (yl_pick (u := _) (v := undef) hF rfl rfl (fun _ => rfl) (fun h => by cases h)) ?_
      clear hF; intro a hF
      refine ha_y 4 hF rfl rfl rfl (wn_none rfl) (.inr hSS) (yl_move hF rfl rfl) ?_
      clear hF; intro a hF
      refine ha_y 5 hF rfl rfl rfl (wn_t hF rfl rfl rfl rfl) (.inr hSS) (yl_move hF rfl rfl) ?_
      clear hF; intro a hF
      refine ha_y 6 hF rfl rfl rfl (wn_t hF rfl rfl rfl rfl) (.inr hSS) (yl_move hF rfl rfl) ?_
      clear hF; intro a hF
      refine ha_one 7 (by kernel_rfl) rfl (wn_t hF rfl rfl rfl rfl) (wp_call (vs := [_, _]) hF rfl rfl rfl rfl cf25 (data_any (n2) (1 : Int) _ (by omega)) ?_)
      clear hF; rintro _ w ⟨rfl, hS1⟩ a hF
      replace hS := hS.callB hS1 rfl; clear hS1
      have hz605 := dataF_size (n2) (1 : Int)
      replace hSS := hS.sub [2, 4] (by decide) rfl (by simp)
      refine ⟨.inr hSS, ?_⟩
      refine ha_y 8 hF rfl rfl rfl (wn_t hF rfl rfl rfl rfl) (.inr hSS) (yl_bin hF rfl rfl rfl rfl (fun _ => run_str_eql)) ?_
      clear hF; intro a hF
      replace hF := fr_set (b' := true) hF (by rw [decide_eq_true_eq]; exact fl_thr (data8 _) hq599)
      refine ha_y 9 hF rfl rfl rfl (wn_none rfl) (.inr hSS) (yl_pick (u := _) (v := undef) hF rfl rfl (fun _ => rfl) (fun h => by cases h)) ?_
      clear hF; intro a hF
      refine ha_y 10 hF rfl rfl rfl (wn_none rfl) (.inr hSS) (yl_move hF rfl rfl) ?_
      clear hF; intro a hF
      refine ha_y 14 hF rfl rfl rfl (wn_t hF rfl rfl rfl rfl) (.inr hSS) (yl_fieldAddr hF rfl rfl (fun w => by kernel_rfl : ∀ w, (Instr.fieldAt 24 (.pointer (some ⟨g573, 0, none⟩)) 0).run Try.prog w = .ok (.pointer (some ⟨g573, 0, none⟩)) w)) ?_
      clear hF; intro a hF
      refine ha_l 11 hF rfl rfl rfl (wn_t hF rfl rfl rfl rfl) hSS (yl_loadK (rs := [_, _, _]) (fun _ h => h) hF rfl rfl 0 rfl ag24 sz24 rfl rfl) ?_
      clear hF; intro a hF
      refine ha_l 12 hF rfl rfl rfl (wn_t hF rfl rfl rfl rfl) hSS (yl_loadK (rs := [_, _]) (fun _ h => h) hF rfl rfl 1 rfl ag28 sz28 rfl rfl) ?_
      clear hF; intro a hF
      refine ha_l 15 hF rfl rfl rfl (wn_t hF rfl rfl rfl rfl) hSS (yl_load (fun _ h => h) hF rfl rfl 0 rfl ag9 rfl) ?_
      clear hF; intro a hF
      refine ha_one 13 (by kernel_rfl) rfl (wn_t hF rfl rfl rfl rfl) (wp_call (vs := [_, _, _]) hF rfl rfl rfl rfl cf15 (choose_any st568 _ ([] : List E59) (rm569) _ ([] : List E59) _ Pq563 _ Tq565 _ (hS.rdRo 3 rfl) (by first | omega | (simp; done)) (by first | omega | (simp; done)) (rd_nil _ 2 0 enc59) (by first | omega | (simp; done)) (hS.rdRow 5 rfl) (hS.rdRow 6 rfl) (by first | omega | (simp; done)) (by first | omega | (simp; done))) ?_)
      clear hF; rintro _ w ⟨rfl, hS1⟩ a hF
      replace hS := hS.callB hS1 rfl; clear hS1
      have hz606 := choose_bd st568 ([] : List E59) ([] : List E59) (rm569) Pq563 Tq565
      replace hSS := hS.sub [2, 4] (by decide) rfl (by simp)
      refine ⟨.inr hSS, ?_⟩
      refine ha_y 16 hF rfl rfl rfl (wn_t hF rfl rfl rfl rfl) (.inr hSS) (yl_bin hF rfl rfl rfl rfl (fun _ => run_str_eql)) ?_
      clear hF; intro a hF
      replace hF := fr_set (b' := true) hF (by rw [decide_eq_true_eq]; exact choose_empty hdf)
      refine ha_y 17 hF rfl rfl rfl (wn_none rfl) (.inr hSS) (yl_pick (u := _) (v := undef) hF rfl rfl (fun _ => rfl) (fun h => by cases h)) ?_
      clear hF; intro a hF
      refine ha_y 18 hF rfl rfl rfl (wn_none rfl) (.inr hSS) (yl_move hF rfl rfl) ?_
      clear hF; intro a hF
      refine ha_l 19 hF rfl rfl rfl (wn_t hF rfl rfl rfl rfl) hSS (yl_loadK (rs := [_, _, _]) (fun _ h => h) hF rfl rfl 0 rfl ag24 sz24 rfl rfl) ?_
      clear hF; intro a hF
      refine ha_one 20 (by kernel_rfl) rfl (wn_t hF rfl rfl rfl rfl) (wp_call (vs := [_, _]) hF rfl rfl rfl rfl cf13 (csecF_any st568 _ ([] : List E59) (rm569) _ ([] : List E59) _ (hS.rdRo 3 rfl) (by first | omega | (simp; done)) (by first | omega | (simp; done)) (rd_nil _ 2 0 enc59) (by first | omega | (simp; done))) ?_)
      clear hF; rintro _ w ⟨v607, M608, rfl, hM609, hS1⟩ a hF
      replace hS := hS.callB hS1 rfl; clear hS1
      obtain ⟨Av607, cv607, rfl⟩ := hS.form 0 rfl
      have hM609l := secF_len st568 ([] : List E59) ([] : List E59) (rm569); rw [← hM609] at hM609l
      replace hSS := hS.sub [3, 5] (by decide) rfl (by simp)
      refine ⟨.inr hSS, ?_⟩
      refine ha_y 21 hF rfl rfl rfl (wn_t hF rfl rfl rfl rfl) (.inr hSS) (yl_len hF rfl rfl (fun _ => run_lenRd sl25 (hS.rdRow 0 rfl))) ?_
      clear hF; intro a hF
      refine ha_y 22 hF rfl rfl rfl (wn_t hF rfl rfl rfl rfl) (.inr hSS) (yl_bin hF rfl rfl rfl rfl (fun _ => run_eql)) ?_
      clear hF; intro a hF
      replace hF := fr_set (b' := true) hF (by rw [decide_eq_true_eq, hM609, secF_nil]; rfl)
      refine ha_y 23 hF rfl rfl rfl (wn_none rfl) (.inr hSS) (yl_pick (u := _) (v := undef) hF rfl rfl (fun _ => rfl) (fun h => by cases h)) ?_
      clear hF; intro a hF
      refine ha_y 24 hF rfl rfl rfl (wn_none rfl) (.inr hSS) (yl_move hF rfl rfl) ?_
      clear hF; intro a hF
      refine ha_one 25 (by kernel_rfl) rfl (wn_t hF rfl rfl rfl rfl) (wp_call (vs := []) hF rfl rfl rfl rfl cf19 (awake_any _) ?_)
      clear hF; rintro _ w ⟨rfl, hS1⟩ a hF
      replace hS := hS.callB hS1 rfl; clear hS1
      replace hSS := hS.sub [3, 5] (by decide) rfl (by simp)
      refine ⟨.inr hSS, ?_⟩
      refine ha_y 26 hF rfl rfl rfl (wn_none rfl) (.inr hSS) (yl_pick (u := _) (v := undef) hF rfl rfl (fun _ => rfl) (fun h => by cases h)) ?_
      clear hF; intro a hF
      refine ha_y 27 hF rfl rfl rfl (wn_none rfl) (.inr hSS) (yl_assign hF rfl rfl) ?_
      clear hF; intro a hF
      refine ha_done (by kernel_rfl) ?_ _
      refine then_n ?_
      refine wp_ret ?_
      refine ret_t hF rfl rfl ?_
      exact ⟨_, rfl, rfl, (hS.sub [] (by decide) (by first | rfl | simp) (by simp))⟩
  · skip
    refine ha_op 8 rfl (wn_none rfl) (wp_alloc (cs := #[_, _, _]) hF hS rfl rfl rfl zr24 rfl ?_)
    clear hF hS; intro a w g610 hF hS
    replace hSS := hS.sub [6] (by decide) rfl (by simp)
    refine ⟨.inr hSS, ?_⟩
    refine ha_one 3 (by kernel_rfl) rfl (wn_none rfl) (wp_call (vs := [_, _]) hF rfl rfl rfl rfl cf25 (data_any (n2) (1 : Int) _ (by omega)) ?_)
    clear hF; rintro _ w ⟨rfl, hS1⟩ a hF
    replace hS := hS.callB hS1 rfl; clear hS1
    have hz611 := dataF_size (n2) (1 : Int)
    replace hSS := hS.sub [6] (by decide) rfl (by simp)
    refine ⟨.inr hSS, ?_⟩
    refine ha_one 4 (by kernel_rfl) rfl (wn_none rfl) (wp_call (vs := [_, _, _, _]) hF rfl rfl rfl rfl cf29 (write2_any st556 _ Lq558 (rm559) ((rnd (n1) ((((st556).size : Int) / 8)))) (dataF (n2) (1 : Int)) true _ (hS.rdRow 7 rfl) (by first | omega | (simp; done)) (by first | omega | (simp; done)) (by first | omega | (simp; done))) ?_)
    clear hF; rintro _ w ⟨st612, v613, Lq614, rm615, b616, rfl, hq617, hS1⟩ a hF
    replace hS := hS.callB hS1 rfl; clear hS1
    obtain ⟨Av613, cv613, rfl⟩ := hS.form 0 rfl
    have hq617b := writeF_bd hq617
    obtain ⟨rfl, -, -, hq617d, hq617s, rfl⟩ := (writeF_ok hq617).resolve_right (fun h9 => h9.2.1 (⟨hd560d, okW_of (by unfold okS okI; omega) (by omega)⟩))
    have hq617i := okD_I hq617d
    replace hSS := hS.sub [7] (by decide) rfl (by simp)
    refine ⟨.inr hSS, ?_⟩
    refine ha_y 5 hF rfl rfl rfl (wn_none rfl) (.inr hSS) (yl_move hF rfl rfl) ?_
    clear hF; intro a hF
    refine ha_y 6 hF rfl rfl rfl (wn_none rfl) (.inr hSS) (yl_extract hF rfl rfl rfl) ?_
    clear hF; intro a hF
    refine ha_y 7 hF rfl rfl rfl (wn_none rfl) (.inr hSS) (yl_extract hF rfl rfl rfl) ?_
    clear hF; intro a hF
    refine ha_one 9 (by kernel_rfl) rfl (wn_none rfl) (wp_store (cs' := #[_, _, _]) hF hS rfl rfl rfl rfl 1 rfl sz24 (by simp [Value.cells, Value.oneCell']) (by simp [Value.cells]) rfl ?_)
    clear hF hS; intro a w hF hS
    replace hSS := hS.sub [7] (by decide) rfl (by simp)
    refine ⟨.inr hSS, ?_⟩
    refine ha_y 10 hF rfl rfl rfl (wn_none rfl) (.inr hSS) (yl_assign hF rfl rfl) ?_
    clear hF; intro a hF
    refine ha_done (by kernel_rfl) ?_ _
    refine then_n ?_
    refine c_seq ?_
    refine c_region ?_
    have hCw : okC st612 Lq614 [] (rm559) := okC_nil hq617d; have hcz := choose_size (P := Pq563) (T := Tq565) hCw
    refine seq_yl hF (wn_none rfl) rfl rfl (yl_loadK (rs := [_, _, _]) (fun _ h => h ▸ hS) hF rfl rfl 1 rfl ag24 sz24 rfl rfl) ?_
    clear hF; intro a hF
    refine seq_yl hF (wn_none rfl) rfl rfl (yl_loadK (rs := [_, _]) (fun _ h => h ▸ hS) hF rfl rfl 4 rfl ag28 sz28 rfl rfl) ?_
    clear hF; intro a hF
    refine seq_wp (wn_none rfl) (wp_call (vs := [_, _, _]) hF rfl rfl rfl rfl cf15 (choose_any st612 _ Lq614 ((rm559)) _ ([] : List E59) _ Pq563 _ Tq565 _ (hS.rdRow 0 rfl) (by first | omega | (simp; done)) (by first | omega | (simp; done)) (rd_nil _ 2 0 enc59) (by first | omega | (simp; done)) (hS.rdRow 5 rfl) (hS.rdRow 6 rfl) (by first | omega | (simp; done)) (by first | omega | (simp; done))) ?_)
    clear hF; rintro _ w ⟨rfl, hS1⟩ a hF
    replace hS := hS.callB hS1 rfl; clear hS1
    have hz618 := choose_bd st612 Lq614 ([] : List E59) ((rm559)) Pq563 Tq565
    refine seq_yl hF (wn_none rfl) rfl rfl (yl_move hF rfl rfl) ?_
    clear hF; intro a hF
    refine seq_wp (wn_none rfl) (wp_call (vs := [_, _, _]) hF rfl rfl rfl rfl cf26 (imRead2_any (chooseF st612 Lq614 ([] : List E59) ((rm559)) Pq563 Tq565) ((rnd (n1) ((((st556).size : Int) / 8)))) (1 : Int) _ (by omega)) ?_)
    clear hF; rintro _ w ⟨xs619, e620, rfl, hsp621, hS1⟩ a hF
    replace hS := hS.callB hS1 rfl; clear hS1
    have hsp621z := fun h9 : okS (((chooseF st612 Lq614 ([] : List E59) ((rm559)) Pq563 Tq565)).size : Int) ((rnd (n1) ((((st556).size : Int) / 8)))) (1 : Int) => subs_size (s := (chooseF st612 Lq614 ([] : List E59) ((rm559)) Pq563 Tq565)) (i := ((rnd (n1) ((((st556).size : Int) / 8)))) * 8) (j := (((rnd (n1) ((((st556).size : Int) / 8)))) + (1 : Int)) * 8) (by unfold okS at h9; omega) (by unfold okS at h9; omega) (by unfold okS okI at h9; omega)
    obtain ⟨hk622, rfl, rfl⟩ := hsp621.resolve_right (fun h9 => h9.1 ((by unfold okS okI; omega)))
    try (have hk622x := hk622; simp only [okS, okI, okW, okP] at hk622x)
    refine seq_yl hF (wn_none rfl) rfl rfl (yl_move hF rfl rfl) ?_
    clear hF; intro a hF
    refine seq_yl hF (wn_none rfl) rfl rfl (yl_extract hF rfl rfl rfl) ?_
    clear hF; intro a hF
    refine seq_yl hF (wn_none rfl) rfl rfl (yl_extract hF rfl rfl rfl) ?_
    clear hF; intro a hF
    refine seq_yl hF (wn_none rfl) rfl rfl (yl_assign hF rfl rfl) ?_
    clear hF; intro a hF
    refine seq_yl hF (wn_none rfl) rfl rfl (yl_assign hF rfl rfl) ?_
    clear hF; intro a hF
    refine wpList_nil ?_
    refine then_n ?_
    refine c_seq ?_
    refine ha_startS hS [2, 4] 28 (by kernel_rfl) ?_; clear hS; intro w hS
    have hSS := hS.sub [2, 4] (by decide) rfl (by simp)
    refine ha_y 0 hF rfl rfl rfl (wn_none rfl) (.inr hSS) (yl_move hF rfl rfl) ?_
    clear hF; intro a hF
    refine ha_y 1 hF rfl rfl rfl (wn_none rfl) (.inr hSS) (yl_move hF rfl rfl) ?_
    clear hF; intro a hF
    refine ha_y 2 hF rfl rfl rfl (wn_t hF rfl rfl rfl rfl) (.inr hSS) (yl_move hF rfl rfl) ?_
    clear hF; intro a hF
    refine ha_y 3 hF rfl rfl rfl (wn_none rfl) (.inr hSS) (yl_pick (u := _) (v := undef) hF rfl rfl (fun _ => rfl) (fun h => by cases h)) ?_
    clear hF; intro a hF
    refine ha_y 4 hF rfl rfl rfl (wn_none rfl) (.inr hSS) (yl_move hF rfl rfl) ?_
    clear hF; intro a hF
    refine ha_y 5 hF rfl rfl rfl (wn_t hF rfl rfl rfl rfl) (.inr hSS) (yl_move hF rfl rfl) ?_
    clear hF; intro a hF
    refine ha_y 6 hF rfl rfl rfl (wn_t hF rfl rfl rfl rfl) (.inr hSS) (yl_move hF rfl rfl) ?_
    clear hF; intro a hF
    refine ha_one 7 (by kernel_rfl) rfl (wn_t hF rfl rfl rfl rfl) (wp_call (vs := [_, _]) hF rfl rfl rfl rfl cf25 (data_any (n2) (1 : Int) _ (by omega)) ?_)
    clear hF; rintro _ w ⟨rfl, hS1⟩ a hF
    replace hS := hS.callB hS1 rfl; clear hS1
    have hz623 := dataF_size (n2) (1 : Int)
    replace hSS := hS.sub [2, 4] (by decide) rfl (by simp)
    refine ⟨.inr hSS, ?_⟩
    refine ha_y 8 hF rfl rfl rfl (wn_t hF rfl rfl rfl rfl) (.inr hSS) (yl_bin hF rfl rfl rfl rfl (fun _ => run_str_eql)) ?_
    clear hF; intro a hF
    replace hF := fr_set (b' := true) hF (by rw [decide_eq_true_eq]; exact fl_thr (data8 _) hq617)
    refine ha_y 9 hF rfl rfl rfl (wn_none rfl) (.inr hSS) (yl_pick (u := _) (v := undef) hF rfl rfl (fun _ => rfl) (fun h => by cases h)) ?_
    clear hF; intro a hF
    refine ha_y 10 hF rfl rfl rfl (wn_none rfl) (.inr hSS) (yl_move hF rfl rfl) ?_
    clear hF; intro a hF
    refine ha_y 14 hF rfl rfl rfl (wn_t hF rfl rfl rfl rfl) (.inr hSS) (yl_fieldAddr hF rfl rfl (fun w => by kernel_rfl : ∀ w, (Instr.fieldAt 24 (.pointer (some ⟨g573, 0, none⟩)) 0).run Try.prog w = .ok (.pointer (some ⟨g573, 0, none⟩)) w)) ?_
    clear hF; intro a hF
    refine ha_l 11 hF rfl rfl rfl (wn_t hF rfl rfl rfl rfl) hSS (yl_loadK (rs := [_, _, _]) (fun _ h => h) hF rfl rfl 0 rfl ag24 sz24 rfl rfl) ?_
    clear hF; intro a hF
    refine ha_l 12 hF rfl rfl rfl (wn_t hF rfl rfl rfl rfl) hSS (yl_loadK (rs := [_, _]) (fun _ h => h) hF rfl rfl 1 rfl ag28 sz28 rfl rfl) ?_
    clear hF; intro a hF
    refine ha_l 15 hF rfl rfl rfl (wn_t hF rfl rfl rfl rfl) hSS (yl_load (fun _ h => h) hF rfl rfl 0 rfl ag9 rfl) ?_
    clear hF; intro a hF
    refine ha_one 13 (by kernel_rfl) rfl (wn_t hF rfl rfl rfl rfl) (wp_call (vs := [_, _, _]) hF rfl rfl rfl rfl cf15 (choose_any st568 _ ([] : List E59) (rm569) _ ([] : List E59) _ Pq563 _ Tq565 _ (hS.rdRo 3 rfl) (by first | omega | (simp; done)) (by first | omega | (simp; done)) (rd_nil _ 2 0 enc59) (by first | omega | (simp; done)) (hS.rdRow 5 rfl) (hS.rdRow 6 rfl) (by first | omega | (simp; done)) (by first | omega | (simp; done))) ?_)
    clear hF; rintro _ w ⟨rfl, hS1⟩ a hF
    replace hS := hS.callB hS1 rfl; clear hS1
    have hz624 := choose_bd st568 ([] : List E59) ([] : List E59) (rm569) Pq563 Tq565
    replace hSS := hS.sub [2, 4] (by decide) rfl (by simp)
    refine ⟨.inr hSS, ?_⟩
    refine ha_y 16 hF rfl rfl rfl (wn_t hF rfl rfl rfl rfl) (.inr hSS) (yl_bin hF rfl rfl rfl rfl (fun _ => run_str_eql)) ?_
    clear hF; intro a hF
    replace hF := fr_set (b' := true) hF (by rw [decide_eq_true_eq]; exact choose_empty hdf)
    refine ha_y 17 hF rfl rfl rfl (wn_none rfl) (.inr hSS) (yl_pick (u := _) (v := undef) hF rfl rfl (fun _ => rfl) (fun h => by cases h)) ?_
    clear hF; intro a hF
    refine ha_y 18 hF rfl rfl rfl (wn_none rfl) (.inr hSS) (yl_move hF rfl rfl) ?_
    clear hF; intro a hF
    refine ha_l 19 hF rfl rfl rfl (wn_t hF rfl rfl rfl rfl) hSS (yl_loadK (rs := [_, _, _]) (fun _ h => h) hF rfl rfl 0 rfl ag24 sz24 rfl rfl) ?_
    clear hF; intro a hF
    refine ha_one 20 (by kernel_rfl) rfl (wn_t hF rfl rfl rfl rfl) (wp_call (vs := [_, _]) hF rfl rfl rfl rfl cf13 (csecF_any st568 _ ([] : List E59) (rm569) _ ([] : List E59) _ (hS.rdRo 3 rfl) (by first | omega | (simp; done)) (by first | omega | (simp; done)) (rd_nil _ 2 0 enc59) (by first | omega | (simp; done))) ?_)
    clear hF; rintro _ w ⟨v625, M626, rfl, hM627, hS1⟩ a hF
    replace hS := hS.callB hS1 rfl; clear hS1
    obtain ⟨Av625, cv625, rfl⟩ := hS.form 0 rfl
    have hM627l := secF_len st568 ([] : List E59) ([] : List E59) (rm569); rw [← hM627] at hM627l
    replace hSS := hS.sub [3, 5] (by decide) rfl (by simp)
    refine ⟨.inr hSS, ?_⟩
    refine ha_y 21 hF rfl rfl rfl (wn_t hF rfl rfl rfl rfl) (.inr hSS) (yl_len hF rfl rfl (fun _ => run_lenRd sl25 (hS.rdRow 0 rfl))) ?_
    clear hF; intro a hF
    refine ha_y 22 hF rfl rfl rfl (wn_t hF rfl rfl rfl rfl) (.inr hSS) (yl_bin hF rfl rfl rfl rfl (fun _ => run_eql)) ?_
    clear hF; intro a hF
    replace hF := fr_set (b' := true) hF (by rw [decide_eq_true_eq, hM627, secF_nil]; rfl)
    refine ha_y 23 hF rfl rfl rfl (wn_none rfl) (.inr hSS) (yl_pick (u := _) (v := undef) hF rfl rfl (fun _ => rfl) (fun h => by cases h)) ?_
    clear hF; intro a hF
    refine ha_y 24 hF rfl rfl rfl (wn_none rfl) (.inr hSS) (yl_move hF rfl rfl) ?_
    clear hF; intro a hF
    refine ha_one 25 (by kernel_rfl) rfl (wn_t hF rfl rfl rfl rfl) (wp_call (vs := []) hF rfl rfl rfl rfl cf19 (awake_any _) ?_)
    clear hF; rintro _ w ⟨rfl, hS1⟩ a hF
    replace hS := hS.callB hS1 rfl; clear hS1
    replace hSS := hS.sub [3, 5] (by decide) rfl (by simp)
    refine ⟨.inr hSS, ?_⟩
    refine ha_y 26 hF rfl rfl rfl (wn_none rfl) (.inr hSS) (yl_pick (u := _) (v := undef) hF rfl rfl (fun _ => rfl) (fun h => by cases h)) ?_
    clear hF; intro a hF
    refine ha_y 27 hF rfl rfl rfl (wn_none rfl) (.inr hSS) (yl_assign hF rfl rfl) ?_
    clear hF; intro a hF
    refine ha_done (by kernel_rfl) ?_ _
    refine then_n ?_
    refine wp_ret ?_
    refine ret_t hF rfl rfl ?_
    exact ⟨_, rfl, rfl, (hS.sub [] (by decide) (by first | rfl | simp) (by simp))⟩

end Go.Proofs.Ytlhcpeolkkadbaa

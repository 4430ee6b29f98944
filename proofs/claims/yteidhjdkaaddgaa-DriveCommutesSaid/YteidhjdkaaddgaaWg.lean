/- walks, printed by wip/gen -/
import Derived.Test.YteidhjdkaaddgaaWa
import Derived.Test.YteidhjdkaaddgaaW6
import Derived.Test.YteidhjdkaaddgaaW7
import Derived.Test.YteidhjdkaaddgaaWB
namespace Go.Proofs.Yteidhjdkaaddgaa
open Go.RowKit
set_option linter.unusedVariables false
set_option linter.unusedSimpArgs false

set_option maxHeartbeats 2000000 in
set_option maxRecDepth 100000 in
theorem commutes_any (v : Value) (L : List Int) (n1 n2 n3 n4 : Int) (fua : Bool) (w0 : World) (hv : Rd w0 1 v (L).length (cells encI (L))) (hL : L.length ≤ 9223372036854775807) :
    Fn Try.prog 6 #[v, .int .i64 n1, .int .i64 n2, .int .i64 n3, .int .i64 n4, .bool fua] w0 (fun v w' => v = .bool true ∧ Sat w0 w' []) := by
  obtain ⟨Av, cv, rfl⟩ := Rd.form hv
  refine c_enter (N := 111) (l := [_, _, _, _, _, _]) Try.func6 rfl rfl (fun a w hF hS => ?_)
  replace hS := hS.addRo hv
  refine c_seq ?_
  refine c_region ?_
  refine seq_yl hF (wn_none rfl) rfl rfl (yl_assign hF rfl rfl) ?_
  clear hF; intro a hF
  refine wpList_nil ?_
  refine then_n ?_
  refine c_seq ?_
  refine c_region ?_
  refine seq_yl hF (wn_none rfl) rfl rfl (yl_move hF rfl rfl) ?_
  clear hF; intro a hF
  refine seq_wp (wn_none rfl) (wp_call (vs := [_]) hF rfl rfl rfl rfl cf11 (drive_any _ L _ (hS.rdRo 0 rfl) (by first | omega | (simp; done) | (simp; omega))) ?_)
  clear hF; rintro _ w ⟨st702, v703, Lq704, rm705, rfl, hd706, hS1⟩ a hF
  replace hS := hS.callB hS1 rfl; clear hS1
  obtain ⟨Av703, cv703, rfl⟩ := hS.form 0 rfl
  obtain ⟨hd706d, hd706s⟩ := hd706; have hd706i := okD_I hd706d
  refine seq_wp (wn_none rfl) (wp_alloc (cs := #[_, _, _]) hF hS rfl rfl rfl zr25 rfl ?_)
  clear hF hS; intro a w g707 hF hS
  refine seq_wp (wn_none rfl) (wp_store (cs' := #[_, _, _]) hF hS rfl rfl rfl rfl 0 rfl sz25 (by simp [Value.cells, Value.oneCell']) (by simp [Value.cells]) rfl ?_)
  clear hF hS; intro a w hF hS
  refine wpList_nil ?_
  refine then_n ?_
  refine c_seq ?_
  refine c_region ?_
  refine seq_yl hF (wn_none rfl) rfl rfl (yl_loadK (rs := [_, _, _]) (fun _ h => h ▸ hS) hF rfl rfl 0 rfl ag25 sz25 rfl rfl) ?_
  clear hF; intro a hF
  refine seq_wp (wn_none rfl) (wp_call (vs := [_]) hF rfl rfl rfl rfl cf13 (secs_any st702 _ _ _ (by omega)) ?_)
  clear hF; rintro _ w ⟨rfl, hS1⟩ a hF
  replace hS := hS.callB hS1 rfl; clear hS1
  refine seq_yl hF (wn_none rfl) rfl rfl (yl_assign hF rfl rfl) ?_
  clear hF; intro a hF
  refine wpList_nil ?_
  refine then_n ?_
  refine c_seq ?_
  refine c_region ?_
  refine seq_yl hF (wn_none rfl) rfl rfl (yl_move hF rfl rfl) ?_
  clear hF; intro a hF
  refine seq_yl hF (wn_none rfl) rfl rfl (yl_move hF rfl rfl) ?_
  clear hF; intro a hF
  have hr708 := rnd_any (n1) ((((st702).size : Int) / 8))
  refine seq_wp (wn_none rfl) (wp_call (vs := [_, _]) hF rfl rfl rfl rfl cf12 (round_any (n1) ((((st702).size : Int) / 8)) _ (by omega)) ?_)
  clear hF; rintro _ w ⟨rfl, hS1⟩ a hF
  replace hS := hS.callB hS1 rfl; clear hS1
  refine seq_yl hF (wn_none rfl) rfl rfl (yl_move hF rfl rfl) ?_
  clear hF; intro a hF
  refine seq_yl hF (wn_none rfl) rfl rfl (yl_move hF rfl rfl) ?_
  clear hF; intro a hF
  have hr709 := rnd_any (n2) ((((st702).size : Int) / 8))
  refine seq_wp (wn_none rfl) (wp_call (vs := [_, _]) hF rfl rfl rfl rfl cf12 (round_any (n2) ((((st702).size : Int) / 8)) _ (by omega)) ?_)
  clear hF; rintro _ w ⟨rfl, hS1⟩ a hF
  replace hS := hS.callB hS1 rfl; clear hS1
  refine seq_yl hF (wn_none rfl) rfl rfl (yl_assign hF rfl rfl) ?_
  clear hF; intro a hF
  refine seq_yl hF (wn_none rfl) rfl rfl (yl_assign hF rfl rfl) ?_
  clear hF; intro a hF
  refine wpList_nil ?_
  refine then_n ?_
  refine c_seq ?_
  refine c_seq ?_
  refine c_region ?_
  refine seq_yl hF (wn_none rfl) rfl rfl (yl_move hF rfl rfl) ?_
  clear hF; intro a hF
  refine seq_yl hF (wn_none rfl) rfl rfl (yl_move hF rfl rfl) ?_
  clear hF; intro a hF
  refine seq_yl hF (wn_none rfl) rfl rfl (yl_bin hF rfl rfl rfl rfl (fun _ => run_eql)) ?_
  clear hF; intro a hF
  refine wpList_nil ?_
  refine then_n ?_
  refine c_cond hF rfl (fun hc710 => ?_) (fun hc710 => ?_)
  · first | (replace hc710 := of_decide_eq_true hc710) | (replace hc710 := of_decide_eq_false (bnot_t hc710)) | (replace hc710 := bnot_t hc710) | skip
    try (have hc710x := hc710; simp only [okS, okI, okW, okP] at hc710x)
    refine c_seq ?_
    refine c_region ?_
    refine seq_wp (wn_none rfl) (wp_call (vs := []) hF rfl rfl rfl rfl cf18 (awake_any _) ?_)
    clear hF; rintro _ w ⟨rfl, hS1⟩ a hF
    replace hS := hS.callB hS1 rfl; clear hS1
    refine seq_yl hF (wn_none rfl) rfl rfl (yl_assign hF rfl rfl) ?_
    clear hF; intro a hF
    refine wpList_nil ?_
    refine then_n ?_
    refine wp_ret ?_
    refine then_r ?_
    refine ret_t hF rfl rfl ?_
    exact ⟨_, rfl, rfl, (hS.sub [] (by decide) (by first | rfl | simp) (by simp))⟩
  · first | (replace hc710 := of_decide_eq_false hc710) | (replace hc710 := of_decide_eq_true (bnot_f hc710)) | (replace hc710 := bnot_f hc710) | skip
    try (have hc710x := hc710; simp only [okS, okI, okW, okP] at hc710x)
    refine wp_skip ?_
    refine then_n ?_
    refine c_seq ?_
    refine c_cut (fun a w => ∃ (st712 : ByteArray) (Lq714 : List E39) (g718 : Nat) (Av713 : Option Addr) (cv713 : Nat), (writeF st702 Lq704 (rm705) ((rnd (n1) ((((st702).size : Int) / 8)))) (dataF (n3) (1 : Int)) fua = (st712, Lq714, (rm705), true)) ∧ (okD st712 Lq714 (rm705)) ∧ (((st712).size : Int) = ((st702).size : Int)) ∧ Fr 111 a [(0, .slice Av (L).length cv), (1, .int .i64 (n1)), (2, .int .i64 (n2)), (3, .int .i64 (n3)), (4, .int .i64 (n4)), (5, .bool fua), (12, .bool false), (13, .pointer (some ⟨g707, 0, none⟩)), (14, .int .i64 ((((st702).size : Int) / 8))), (15, .int .i64 ((rnd (n1) ((((st702).size : Int) / 8))))), (16, .int .i64 ((rnd (n2) ((((st702).size : Int) / 8))))), (17, .pointer (some ⟨g718, 0, none⟩)), (18, .bool true)] ∧ Sat w0 w (.box g718 25 #[.string st712, .slice Av713 (Lq714).length cv713, .int .i64 ((rm705))] :: .row 39 2 (.slice Av713 (Lq714).length cv713) (Lq714).length (cells enc39 (Lq714)) :: .box g707 25 #[.string st702, .slice Av703 (Lq704).length cv703, .int .i64 (rm705)] :: .row 39 2 (.slice Av703 (Lq704).length cv703) (Lq704).length (cells enc39 (Lq704)) :: .ro 1 (.slice Av (L).length cv) (L).length (cells encI (L)) :: [])) ?_ ?_
    · skip
      refine ha_startS hS [0] 12 (by kernel_rfl) ?_; clear hS; intro w hS
      have hSS := hS.sub [0] (by decide) rfl (by simp)
      refine ha_y 1 hF rfl rfl rfl (wn_none rfl) (.inr hSS) (yl_move hF rfl rfl) ?_
      clear hF; intro a hF
      refine ha_y 2 hF rfl rfl rfl (wn_none rfl) (.inr hSS) (yl_move hF rfl rfl) ?_
      clear hF; intro a hF
      refine ha_y 4 hF rfl rfl rfl (wn_none rfl) (.inr hSS) (yl_move hF rfl rfl) ?_
      clear hF; intro a hF
      refine ha_l 0 hF rfl rfl rfl (wn_none rfl) hSS (yl_loadK (rs := [_, _, _]) (fun _ h => h) hF rfl rfl 0 rfl ag25 sz25 rfl rfl) ?_
      clear hF; intro a hF
      refine ha_all (rs := [3, 9]) (by kernel_rfl) (by simp) ?_
      refine List.forall_mem_cons.2 ⟨?_, List.forall_mem_cons.2 ⟨?_, (fun _ h => by cases h)⟩⟩
      · skip
        refine ha_op 3 rfl (wn_none rfl) (wp_call (vs := [_, _]) hF rfl rfl rfl rfl cf15 (data_any (n3) (1 : Int) _ (by omega)) ?_)
        clear hF; rintro _ w ⟨rfl, hS1⟩ a hF
        replace hS := hS.callB hS1 rfl; clear hS1
        have hz719 := dataF_size (n3) (1 : Int)
        replace hSS := hS.sub [0] (by decide) rfl (by simp)
        refine ⟨.inr hSS, ?_⟩
        refine ha_all (rs := [5, 9]) (by kernel_rfl) (by simp) ?_
        refine List.forall_mem_cons.2 ⟨?_, List.forall_mem_cons.2 ⟨?_, (fun _ h => by cases h)⟩⟩
        · skip
          refine ha_op 5 rfl (wn_none rfl) (wp_call (vs := [_, _, _, _]) hF rfl rfl rfl rfl cf14 (write_any st702 _ Lq704 (rm705) ((rnd (n1) ((((st702).size : Int) / 8)))) (dataF (n3) (1 : Int)) fua _ (hS.rdRow 1 rfl) (by first | omega | (simp; done)) (by first | omega | (simp; done)) (by first | omega | (simp; done))) ?_)
          clear hF; rintro _ w ⟨st720, v721, Lq722, rm723, b724, rfl, hq725, hS1⟩ a hF
          replace hS := hS.callB hS1 rfl; clear hS1
          obtain ⟨Av721, cv721, rfl⟩ := hS.form 0 rfl
          have hq725b := writeF_bd hq725
          obtain ⟨rfl, -, -, hq725d, hq725s, rfl⟩ := (writeF_ok hq725).resolve_right (fun h9 => h9.2.1 (⟨hd706d, okW_of (by unfold okS okI; omega) (by omega)⟩))
          have hq725i := okD_I hq725d
          replace hSS := hS.sub [1] (by decide) rfl (by simp)
          refine ⟨.inr hSS, ?_⟩
          refine ha_y 6 hF rfl rfl rfl (wn_none rfl) (.inr hSS) (yl_move hF rfl rfl) ?_
          clear hF; intro a hF
          refine ha_y 7 hF rfl rfl rfl (wn_none rfl) (.inr hSS) (yl_extract hF rfl rfl rfl) ?_
          clear hF; intro a hF
          refine ha_y 8 hF rfl rfl rfl (wn_none rfl) (.inr hSS) (yl_extract hF rfl rfl rfl) ?_
          clear hF; intro a hF
          refine ha_one 9 (by kernel_rfl) rfl (wn_none rfl) (wp_alloc (cs := #[_, _, _]) hF hS rfl rfl rfl zr25 rfl ?_)
          clear hF hS; intro a w g726 hF hS
          replace hSS := hS.sub [2] (by decide) rfl (by simp)
          refine ⟨.inr hSS, ?_⟩
          refine ha_one 10 (by kernel_rfl) rfl (wn_none rfl) (wp_store (cs' := #[_, _, _]) hF hS rfl rfl rfl rfl 0 rfl sz25 (by simp [Value.cells, Value.oneCell']) (by simp [Value.cells]) rfl ?_)
          clear hF hS; intro a w hF hS
          replace hSS := hS.sub [2] (by decide) rfl (by simp)
          refine ⟨.inr hSS, ?_⟩
          refine ha_y 11 hF rfl rfl rfl (wn_none rfl) (.inr hSS) (yl_assign hF rfl rfl) ?_
          clear hF; intro a hF
          refine ha_done (by kernel_rfl) ?_ _
          refine cut_n ?_
          exact ⟨_, _, _, _, _, hq725, hq725d, hq725s, hF.to [0, 1, 2, 3, 4, 5, 12, 13, 14, 15, 16, 17, 18] rfl, (hS.sub [0, 1, 2, 3, 4] (by decide) (by first | rfl | simp) (by simp))⟩
        · skip
          refine ha_op 9 rfl (wn_none rfl) (wp_alloc (cs := #[_, _, _]) hF hS rfl rfl rfl zr25 rfl ?_)
          clear hF hS; intro a w g727 hF hS
          replace hSS := hS.sub [1] (by decide) rfl (by simp)
          refine ⟨.inr hSS, ?_⟩
          refine ha_one 5 (by kernel_rfl) rfl (wn_none rfl) (wp_call (vs := [_, _, _, _]) hF rfl rfl rfl rfl cf14 (write_any st702 _ Lq704 (rm705) ((rnd (n1) ((((st702).size : Int) / 8)))) (dataF (n3) (1 : Int)) fua _ (hS.rdRow 2 rfl) (by first | omega | (simp; done)) (by first | omega | (simp; done)) (by first | omega | (simp; done))) ?_)
          clear hF; rintro _ w ⟨st728, v729, Lq730, rm731, b732, rfl, hq733, hS1⟩ a hF
          replace hS := hS.callB hS1 rfl; clear hS1
          obtain ⟨Av729, cv729, rfl⟩ := hS.form 0 rfl
          have hq733b := writeF_bd hq733
          obtain ⟨rfl, -, -, hq733d, hq733s, rfl⟩ := (writeF_ok hq733).resolve_right (fun h9 => h9.2.1 (⟨hd706d, okW_of (by unfold okS okI; omega) (by omega)⟩))
          have hq733i := okD_I hq733d
          replace hSS := hS.sub [2] (by decide) rfl (by simp)
          refine ⟨.inr hSS, ?_⟩
          refine ha_y 6 hF rfl rfl rfl (wn_none rfl) (.inr hSS) (yl_move hF rfl rfl) ?_
          clear hF; intro a hF
          refine ha_y 7 hF rfl rfl rfl (wn_none rfl) (.inr hSS) (yl_extract hF rfl rfl rfl) ?_
          clear hF; intro a hF
          refine ha_y 8 hF rfl rfl rfl (wn_none rfl) (.inr hSS) (yl_extract hF rfl rfl rfl) ?_
          clear hF; intro a hF
          refine ha_one 10 (by kernel_rfl) rfl (wn_none rfl) (wp_store (cs' := #[_, _, _]) hF hS rfl rfl rfl rfl 1 rfl sz25 (by simp [Value.cells, Value.oneCell']) (by simp [Value.cells]) rfl ?_)
          clear hF hS; intro a w hF hS
          replace hSS := hS.sub [2] (by decide) rfl (by simp)
          refine ⟨.inr hSS, ?_⟩
          refine ha_y 11 hF rfl rfl rfl (wn_none rfl) (.inr hSS) (yl_assign hF rfl rfl) ?_
          clear hF; intro a hF
          refine ha_done (by kernel_rfl) ?_ _
          refine cut_n ?_
          exact ⟨_, _, _, _, _, hq733, hq733d, hq733s, hF.to [0, 1, 2, 3, 4, 5, 12, 13, 14, 15, 16, 17, 18] rfl, (hS.sub [1, 0, 2, 3, 4] (by decide) (by first | rfl | simp) (by simp))⟩
      · skip
        refine ha_op 9 rfl (wn_none rfl) (wp_alloc (cs := #[_, _, _]) hF hS rfl rfl rfl zr25 rfl ?_)
        clear hF hS; intro a w g734 hF hS
        replace hSS := hS.sub [1] (by decide) rfl (by simp)
        refine ⟨.inr hSS, ?_⟩
        refine ha_one 3 (by kernel_rfl) rfl (wn_none rfl) (wp_call (vs := [_, _]) hF rfl rfl rfl rfl cf15 (data_any (n3) (1 : Int) _ (by omega)) ?_)
        clear hF; rintro _ w ⟨rfl, hS1⟩ a hF
        replace hS := hS.callB hS1 rfl; clear hS1
        have hz735 := dataF_size (n3) (1 : Int)
        replace hSS := hS.sub [1] (by decide) rfl (by simp)
        refine ⟨.inr hSS, ?_⟩
        refine ha_one 5 (by kernel_rfl) rfl (wn_none rfl) (wp_call (vs := [_, _, _, _]) hF rfl rfl rfl rfl cf14 (write_any st702 _ Lq704 (rm705) ((rnd (n1) ((((st702).size : Int) / 8)))) (dataF (n3) (1 : Int)) fua _ (hS.rdRow 2 rfl) (by first | omega | (simp; done)) (by first | omega | (simp; done)) (by first | omega | (simp; done))) ?_)
        clear hF; rintro _ w ⟨st736, v737, Lq738, rm739, b740, rfl, hq741, hS1⟩ a hF
        replace hS := hS.callB hS1 rfl; clear hS1
        obtain ⟨Av737, cv737, rfl⟩ := hS.form 0 rfl
        have hq741b := writeF_bd hq741
        obtain ⟨rfl, -, -, hq741d, hq741s, rfl⟩ := (writeF_ok hq741).resolve_right (fun h9 => h9.2.1 (⟨hd706d, okW_of (by unfold okS okI; omega) (by omega)⟩))
        have hq741i := okD_I hq741d
        replace hSS := hS.sub [2] (by decide) rfl (by simp)
        refine ⟨.inr hSS, ?_⟩
        refine ha_y 6 hF rfl rfl rfl (wn_none rfl) (.inr hSS) (yl_move hF rfl rfl) ?_
        clear hF; intro a hF
        refine ha_y 7 hF rfl rfl rfl (wn_none rfl) (.inr hSS) (yl_extract hF rfl rfl rfl) ?_
        clear hF; intro a hF
        refine ha_y 8 hF rfl rfl rfl (wn_none rfl) (.inr hSS) (yl_extract hF rfl rfl rfl) ?_
        clear hF; intro a hF
        refine ha_one 10 (by kernel_rfl) rfl (wn_none rfl) (wp_store (cs' := #[_, _, _]) hF hS rfl rfl rfl rfl 1 rfl sz25 (by simp [Value.cells, Value.oneCell']) (by simp [Value.cells]) rfl ?_)
        clear hF hS; intro a w hF hS
        replace hSS := hS.sub [2] (by decide) rfl (by simp)
        refine ⟨.inr hSS, ?_⟩
        refine ha_y 11 hF rfl rfl rfl (wn_none rfl) (.inr hSS) (yl_assign hF rfl rfl) ?_
        clear hF; intro a hF
        refine ha_done (by kernel_rfl) ?_ _
        refine cut_n ?_
        exact ⟨_, _, _, _, _, hq741, hq741d, hq741s, hF.to [0, 1, 2, 3, 4, 5, 12, 13, 14, 15, 16, 17, 18] rfl, (hS.sub [1, 0, 2, 3, 4] (by decide) (by first | rfl | simp) (by simp))⟩
    clear hF hS
    rintro a w ⟨st712, Lq714, g718, Av713, cv713, hcut710_0, hcut710_1, hcut710_2, hF, hS⟩
    have hq717 := hcut710_0; have hq717b := writeF_bd hq717
    have hq717d := hcut710_1; have hq717s := hcut710_2; have hq717i := okD_I hq717d
    refine then_n ?_
    refine c_seq ?_
    refine c_cut (fun a w => ∃ (st743 : ByteArray) (Lq745 : List E39) (Av744 : Option Addr) (cv744 : Nat), (writeF st712 Lq714 ((rm705)) ((rnd (n2) ((((st702).size : Int) / 8)))) (dataF (n4) (1 : Int)) false = (st743, Lq745, ((rm705)), true)) ∧ (okD st743 Lq745 ((rm705))) ∧ (((st743).size : Int) = ((st712).size : Int)) ∧ Fr 111 a [(0, .slice Av (L).length cv), (1, .int .i64 (n1)), (2, .int .i64 (n2)), (3, .int .i64 (n3)), (4, .int .i64 (n4)), (5, .bool fua), (12, .bool false), (13, .pointer (some ⟨g707, 0, none⟩)), (14, .int .i64 ((((st702).size : Int) / 8))), (15, .int .i64 ((rnd (n1) ((((st702).size : Int) / 8))))), (16, .int .i64 ((rnd (n2) ((((st702).size : Int) / 8))))), (17, .pointer (some ⟨g718, 0, none⟩)), (18, .bool true), (19, .bool true)] ∧ Sat w0 w (.row 39 2 (.slice Av744 (Lq745).length cv744) (Lq745).length (cells enc39 (Lq745)) :: .box g718 25 #[.string st743, .slice Av744 (Lq745).length cv744, .int .i64 (((rm705)))] :: .row 39 2 (.slice Av713 (Lq714).length cv713) (Lq714).length (cells enc39 (Lq714)) :: .box g707 25 #[.string st702, .slice Av703 (Lq704).length cv703, .int .i64 (rm705)] :: .row 39 2 (.slice Av703 (Lq704).length cv703) (Lq704).length (cells enc39 (Lq704)) :: .ro 1 (.slice Av (L).length cv) (L).length (cells encI (L)) :: [])) ?_ ?_
    · skip
      refine ha_startS hS [0] 8 (by kernel_rfl) ?_; clear hS; intro w hS
      have hSS := hS.sub [0] (by decide) rfl (by simp)
      refine ha_y 1 hF rfl rfl rfl (wn_none rfl) (.inr hSS) (yl_move hF rfl rfl) ?_
      clear hF; intro a hF
      refine ha_y 2 hF rfl rfl rfl (wn_none rfl) (.inr hSS) (yl_move hF rfl rfl) ?_
      clear hF; intro a hF
      refine ha_l 0 hF rfl rfl rfl (wn_none rfl) hSS (yl_loadK (rs := [_, _, _]) (fun _ h => h) hF rfl rfl 0 rfl ag25 sz25 rfl rfl) ?_
      clear hF; intro a hF
      refine ha_one 3 (by kernel_rfl) rfl (wn_none rfl) (wp_call (vs := [_, _]) hF rfl rfl rfl rfl cf15 (data_any (n4) (1 : Int) _ (by omega)) ?_)
      clear hF; rintro _ w ⟨rfl, hS1⟩ a hF
      replace hS := hS.callB hS1 rfl; clear hS1
      have hz749 := dataF_size (n4) (1 : Int)
      replace hSS := hS.sub [0] (by decide) rfl (by simp)
      refine ⟨.inr hSS, ?_⟩
      refine ha_one 4 (by kernel_rfl) rfl (wn_none rfl) (wp_call (vs := [_, _, _, _]) hF rfl rfl rfl rfl cf14 (write_any st712 _ Lq714 ((rm705)) ((rnd (n2) ((((st702).size : Int) / 8)))) (dataF (n4) (1 : Int)) false _ (hS.rdRow 1 rfl) (by first | omega | (simp; done)) (by first | omega | (simp; done)) (by first | omega | (simp; done))) ?_)
      clear hF; rintro _ w ⟨st750, v751, Lq752, rm753, b754, rfl, hq755, hS1⟩ a hF
      replace hS := hS.callB hS1 rfl; clear hS1
      obtain ⟨Av751, cv751, rfl⟩ := hS.form 0 rfl
      have hq755b := writeF_bd hq755
      obtain ⟨rfl, -, -, hq755d, hq755s, rfl⟩ := (writeF_ok hq755).resolve_right (fun h9 => h9.2.1 (⟨hq717d, okW_of (by unfold okS okI; omega) (by omega)⟩))
      have hq755i := okD_I hq755d
      replace hSS := hS.sub [1] (by decide) rfl (by simp)
      refine ⟨.inr hSS, ?_⟩
      refine ha_y 5 hF rfl rfl rfl (wn_none rfl) (.inr hSS) (yl_move hF rfl rfl) ?_
      clear hF; intro a hF
      refine ha_y 6 hF rfl rfl rfl (wn_none rfl) (.inr hSS) (yl_extract hF rfl rfl rfl) ?_
      clear hF; intro a hF
      refine ha_y 7 hF rfl rfl rfl (wn_none rfl) (.inr hSS) (yl_extract hF rfl rfl rfl) ?_
      clear hF; intro a hF
      refine ha_one 8 (by kernel_rfl) rfl (wn_none rfl) (wp_store (cs' := #[_, _, _]) hF hS rfl rfl rfl rfl 1 rfl sz25 (by simp [Value.cells, Value.oneCell']) (by simp [Value.cells]) rfl ?_)
      clear hF hS; intro a w hF hS
      refine ⟨.inl (by kernel_rfl), ?_⟩
      refine ha_y 9 hF rfl rfl rfl (wn_none rfl) (.inl (by kernel_rfl)) (yl_assign hF rfl rfl) ?_
      clear hF; intro a hF
      refine ha_done (by kernel_rfl) ?_ _
      refine cut_n ?_
      exact ⟨_, _, _, _, hq755, hq755d, hq755s, hF.to [0, 1, 2, 3, 4, 5, 12, 13, 14, 15, 16, 17, 18, 19] rfl, (hS.sub [0, 1, 2, 3, 4, 5] (by decide) (by first | rfl | simp) (by simp))⟩
    clear hF hS
    rintro a w ⟨st743, Lq745, Av744, cv744, hcut741_0, hcut741_1, hcut741_2, hF, hS⟩
    have hq748 := hcut741_0; have hq748b := writeF_bd hq748
    have hq748d := hcut741_1; have hq748s := hcut741_2; have hq748i := okD_I hq748d
    refine then_n ?_
    refine c_seq ?_
    refine c_cut (fun a w => ∃ (st757 : ByteArray) (Lq759 : List E39) (g763 : Nat) (Av758 : Option Addr) (cv758 : Nat), (writeF st702 Lq704 (rm705) ((rnd (n2) ((((st702).size : Int) / 8)))) (dataF (n4) (1 : Int)) false = (st757, Lq759, (rm705), true)) ∧ (okD st757 Lq759 (rm705)) ∧ (((st757).size : Int) = ((st702).size : Int)) ∧ Fr 111 a [(0, .slice Av (L).length cv), (1, .int .i64 (n1)), (2, .int .i64 (n2)), (3, .int .i64 (n3)), (4, .int .i64 (n4)), (5, .bool fua), (12, .bool false), (13, .pointer (some ⟨g707, 0, none⟩)), (14, .int .i64 ((((st702).size : Int) / 8))), (15, .int .i64 ((rnd (n1) ((((st702).size : Int) / 8))))), (16, .int .i64 ((rnd (n2) ((((st702).size : Int) / 8))))), (17, .pointer (some ⟨g718, 0, none⟩)), (18, .bool true), (19, .bool true), (20, .pointer (some ⟨g763, 0, none⟩)), (21, .bool true)] ∧ Sat w0 w (.box g763 25 #[.string st757, .slice Av758 (Lq759).length cv758, .int .i64 ((rm705))] :: .row 39 2 (.slice Av758 (Lq759).length cv758) (Lq759).length (cells enc39 (Lq759)) :: .row 39 2 (.slice Av744 (Lq745).length cv744) (Lq745).length (cells enc39 (Lq745)) :: .box g718 25 #[.string st743, .slice Av744 (Lq745).length cv744, .int .i64 (((rm705)))] :: .row 39 2 (.slice Av713 (Lq714).length cv713) (Lq714).length (cells enc39 (Lq714)) :: .box g707 25 #[.string st702, .slice Av703 (Lq704).length cv703, .int .i64 (rm705)] :: .row 39 2 (.slice Av703 (Lq704).length cv703) (Lq704).length (cells enc39 (Lq704)) :: .ro 1 (.slice Av (L).length cv) (L).length (cells encI (L)) :: [])) ?_ ?_
    · skip
      refine ha_startS hS [3] 11 (by kernel_rfl) ?_; clear hS; intro w hS
      have hSS := hS.sub [3] (by decide) rfl (by simp)
      refine ha_y 1 hF rfl rfl rfl (wn_none rfl) (.inr hSS) (yl_move hF rfl rfl) ?_
      clear hF; intro a hF
      refine ha_y 2 hF rfl rfl rfl (wn_none rfl) (.inr hSS) (yl_move hF rfl rfl) ?_
      clear hF; intro a hF
      refine ha_l 0 hF rfl rfl rfl (wn_none rfl) hSS (yl_loadK (rs := [_, _, _]) (fun _ h => h) hF rfl rfl 0 rfl ag25 sz25 rfl rfl) ?_
      clear hF; intro a hF
      refine ha_all (rs := [3, 8]) (by kernel_rfl) (by simp) ?_
      refine List.forall_mem_cons.2 ⟨?_, List.forall_mem_cons.2 ⟨?_, (fun _ h => by cases h)⟩⟩
      · skip
        refine ha_op 3 rfl (wn_none rfl) (wp_call (vs := [_, _]) hF rfl rfl rfl rfl cf15 (data_any (n4) (1 : Int) _ (by omega)) ?_)
        clear hF; rintro _ w ⟨rfl, hS1⟩ a hF
        replace hS := hS.callB hS1 rfl; clear hS1
        have hz764 := dataF_size (n4) (1 : Int)
        replace hSS := hS.sub [3] (by decide) rfl (by simp)
        refine ⟨.inr hSS, ?_⟩
        refine ha_all (rs := [4, 8]) (by kernel_rfl) (by simp) ?_
        refine List.forall_mem_cons.2 ⟨?_, List.forall_mem_cons.2 ⟨?_, (fun _ h => by cases h)⟩⟩
        · skip
          refine ha_op 4 rfl (wn_none rfl) (wp_call (vs := [_, _, _, _]) hF rfl rfl rfl rfl cf14 (write_any st702 _ Lq704 (rm705) ((rnd (n2) ((((st702).size : Int) / 8)))) (dataF (n4) (1 : Int)) false _ (hS.rdRow 4 rfl) (by first | omega | (simp; done)) (by first | omega | (simp; done)) (by first | omega | (simp; done))) ?_)
          clear hF; rintro _ w ⟨st765, v766, Lq767, rm768, b769, rfl, hq770, hS1⟩ a hF
          replace hS := hS.callB hS1 rfl; clear hS1
          obtain ⟨Av766, cv766, rfl⟩ := hS.form 0 rfl
          have hq770b := writeF_bd hq770
          obtain ⟨rfl, -, -, hq770d, hq770s, rfl⟩ := (writeF_ok hq770).resolve_right (fun h9 => h9.2.1 (⟨hd706d, okW_of (by unfold okS okI; omega) (by omega)⟩))
          have hq770i := okD_I hq770d
          replace hSS := hS.sub [4] (by decide) rfl (by simp)
          refine ⟨.inr hSS, ?_⟩
          refine ha_y 5 hF rfl rfl rfl (wn_none rfl) (.inr hSS) (yl_move hF rfl rfl) ?_
          clear hF; intro a hF
          refine ha_y 6 hF rfl rfl rfl (wn_none rfl) (.inr hSS) (yl_extract hF rfl rfl rfl) ?_
          clear hF; intro a hF
          refine ha_y 7 hF rfl rfl rfl (wn_none rfl) (.inr hSS) (yl_extract hF rfl rfl rfl) ?_
          clear hF; intro a hF
          refine ha_one 8 (by kernel_rfl) rfl (wn_none rfl) (wp_alloc (cs := #[_, _, _]) hF hS rfl rfl rfl zr25 rfl ?_)
          clear hF hS; intro a w g771 hF hS
          replace hSS := hS.sub [5] (by decide) rfl (by simp)
          refine ⟨.inr hSS, ?_⟩
          refine ha_one 9 (by kernel_rfl) rfl (wn_none rfl) (wp_store (cs' := #[_, _, _]) hF hS rfl rfl rfl rfl 0 rfl sz25 (by simp [Value.cells, Value.oneCell']) (by simp [Value.cells]) rfl ?_)
          clear hF hS; intro a w hF hS
          replace hSS := hS.sub [5] (by decide) rfl (by simp)
          refine ⟨.inr hSS, ?_⟩
          refine ha_y 10 hF rfl rfl rfl (wn_none rfl) (.inr hSS) (yl_assign hF rfl rfl) ?_
          clear hF; intro a hF
          refine ha_done (by kernel_rfl) ?_ _
          refine cut_n ?_
          exact ⟨_, _, _, _, _, hq770, hq770d, hq770s, hF.to [0, 1, 2, 3, 4, 5, 12, 13, 14, 15, 16, 17, 18, 19, 20, 21] rfl, (hS.sub [0, 1, 2, 3, 4, 5, 6, 7] (by decide) (by first | rfl | simp) (by simp))⟩
        · skip
          refine ha_op 8 rfl (wn_none rfl) (wp_alloc (cs := #[_, _, _]) hF hS rfl rfl rfl zr25 rfl ?_)
          clear hF hS; intro a w g772 hF hS
          replace hSS := hS.sub [4] (by decide) rfl (by simp)
          refine ⟨.inr hSS, ?_⟩
          refine ha_one 4 (by kernel_rfl) rfl (wn_none rfl) (wp_call (vs := [_, _, _, _]) hF rfl rfl rfl rfl cf14 (write_any st702 _ Lq704 (rm705) ((rnd (n2) ((((st702).size : Int) / 8)))) (dataF (n4) (1 : Int)) false _ (hS.rdRow 5 rfl) (by first | omega | (simp; done)) (by first | omega | (simp; done)) (by first | omega | (simp; done))) ?_)
          clear hF; rintro _ w ⟨st773, v774, Lq775, rm776, b777, rfl, hq778, hS1⟩ a hF
          replace hS := hS.callB hS1 rfl; clear hS1
          obtain ⟨Av774, cv774, rfl⟩ := hS.form 0 rfl
          have hq778b := writeF_bd hq778
          obtain ⟨rfl, -, -, hq778d, hq778s, rfl⟩ := (writeF_ok hq778).resolve_right (fun h9 => h9.2.1 (⟨hd706d, okW_of (by unfold okS okI; omega) (by omega)⟩))
          have hq778i := okD_I hq778d
          replace hSS := hS.sub [5] (by decide) rfl (by simp)
          refine ⟨.inr hSS, ?_⟩
          refine ha_y 5 hF rfl rfl rfl (wn_none rfl) (.inr hSS) (yl_move hF rfl rfl) ?_
          clear hF; intro a hF
          refine ha_y 6 hF rfl rfl rfl (wn_none rfl) (.inr hSS) (yl_extract hF rfl rfl rfl) ?_
          clear hF; intro a hF
          refine ha_y 7 hF rfl rfl rfl (wn_none rfl) (.inr hSS) (yl_extract hF rfl rfl rfl) ?_
          clear hF; intro a hF
          refine ha_one 9 (by kernel_rfl) rfl (wn_none rfl) (wp_store (cs' := #[_, _, _]) hF hS rfl rfl rfl rfl 1 rfl sz25 (by simp [Value.cells, Value.oneCell']) (by simp [Value.cells]) rfl ?_)
          clear hF hS; intro a w hF hS
          replace hSS := hS.sub [5] (by decide) rfl (by simp)
          refine ⟨.inr hSS, ?_⟩
          refine ha_y 10 hF rfl rfl rfl (wn_none rfl) (.inr hSS) (yl_assign hF rfl rfl) ?_
          clear hF; intro a hF
          refine ha_done (by kernel_rfl) ?_ _
          refine cut_n ?_
          exact ⟨_, _, _, _, _, hq778, hq778d, hq778s, hF.to [0, 1, 2, 3, 4, 5, 12, 13, 14, 15, 16, 17, 18, 19, 20, 21] rfl, (hS.sub [1, 0, 2, 3, 4, 5, 6, 7] (by decide) (by first | rfl | simp) (by simp))⟩
      · skip
        refine ha_op 8 rfl (wn_none rfl) (wp_alloc (cs := #[_, _, _]) hF hS rfl rfl rfl zr25 rfl ?_)
        clear hF hS; intro a w g779 hF hS
        replace hSS := hS.sub [4] (by decide) rfl (by simp)
        refine ⟨.inr hSS, ?_⟩
        refine ha_one 3 (by kernel_rfl) rfl (wn_none rfl) (wp_call (vs := [_, _]) hF rfl rfl rfl rfl cf15 (data_any (n4) (1 : Int) _ (by omega)) ?_)
        clear hF; rintro _ w ⟨rfl, hS1⟩ a hF
        replace hS := hS.callB hS1 rfl; clear hS1
        have hz780 := dataF_size (n4) (1 : Int)
        replace hSS := hS.sub [4] (by decide) rfl (by simp)
        refine ⟨.inr hSS, ?_⟩
        refine ha_one 4 (by kernel_rfl) rfl (wn_none rfl) (wp_call (vs := [_, _, _, _]) hF rfl rfl rfl rfl cf14 (write_any st702 _ Lq704 (rm705) ((rnd (n2) ((((st702).size : Int) / 8)))) (dataF (n4) (1 : Int)) false _ (hS.rdRow 5 rfl) (by first | omega | (simp; done)) (by first | omega | (simp; done)) (by first | omega | (simp; done))) ?_)
        clear hF; rintro _ w ⟨st781, v782, Lq783, rm784, b785, rfl, hq786, hS1⟩ a hF
        replace hS := hS.callB hS1 rfl; clear hS1
        obtain ⟨Av782, cv782, rfl⟩ := hS.form 0 rfl
        have hq786b := writeF_bd hq786
        obtain ⟨rfl, -, -, hq786d, hq786s, rfl⟩ := (writeF_ok hq786).resolve_right (fun h9 => h9.2.1 (⟨hd706d, okW_of (by unfold okS okI; omega) (by omega)⟩))
        have hq786i := okD_I hq786d
        replace hSS := hS.sub [5] (by decide) rfl (by simp)
        refine ⟨.inr hSS, ?_⟩
        refine ha_y 5 hF rfl rfl rfl (wn_none rfl) (.inr hSS) (yl_move hF rfl rfl) ?_
        clear hF; intro a hF
        refine ha_y 6 hF rfl rfl rfl (wn_none rfl) (.inr hSS) (yl_extract hF rfl rfl rfl) ?_
        clear hF; intro a hF
        refine ha_y 7 hF rfl rfl rfl (wn_none rfl) (.inr hSS) (yl_extract hF rfl rfl rfl) ?_
        clear hF; intro a hF
        refine ha_one 9 (by kernel_rfl) rfl (wn_none rfl) (wp_store (cs' := #[_, _, _]) hF hS rfl rfl rfl rfl 1 rfl sz25 (by simp [Value.cells, Value.oneCell']) (by simp [Value.cells]) rfl ?_)
        clear hF hS; intro a w hF hS
        replace hSS := hS.sub [5] (by decide) rfl (by simp)
        refine ⟨.inr hSS, ?_⟩
        refine ha_y 10 hF rfl rfl rfl (wn_none rfl) (.inr hSS) (yl_assign hF rfl rfl) ?_
        clear hF; intro a hF
        refine ha_done (by kernel_rfl) ?_ _
        refine cut_n ?_
        exact ⟨_, _, _, _, _, hq786, hq786d, hq786s, hF.to [0, 1, 2, 3, 4, 5, 12, 13, 14, 15, 16, 17, 18, 19, 20, 21] rfl, (hS.sub [1, 0, 2, 3, 4, 5, 6, 7] (by decide) (by first | rfl | simp) (by simp))⟩
    clear hF hS
    rintro a w ⟨st757, Lq759, g763, Av758, cv758, hcut755_0, hcut755_1, hcut755_2, hF, hS⟩
    have hq762 := hcut755_0; have hq762b := writeF_bd hq762
    have hq762d := hcut755_1; have hq762s := hcut755_2; have hq762i := okD_I hq762d
    refine then_n ?_
    refine c_seq ?_
    refine c_cut (fun a w => ∃ (st788 : ByteArray) (Lq790 : List E39) (Av789 : Option Addr) (cv789 : Nat), (writeF st757 Lq759 ((rm705)) ((rnd (n1) ((((st702).size : Int) / 8)))) (dataF (n3) (1 : Int)) fua = (st788, Lq790, ((rm705)), true)) ∧ (okD st788 Lq790 ((rm705))) ∧ (((st788).size : Int) = ((st757).size : Int)) ∧ Fr 111 a [(0, .slice Av (L).length cv), (1, .int .i64 (n1)), (2, .int .i64 (n2)), (3, .int .i64 (n3)), (4, .int .i64 (n4)), (5, .bool fua), (12, .bool false), (13, .pointer (some ⟨g707, 0, none⟩)), (14, .int .i64 ((((st702).size : Int) / 8))), (15, .int .i64 ((rnd (n1) ((((st702).size : Int) / 8))))), (16, .int .i64 ((rnd (n2) ((((st702).size : Int) / 8))))), (17, .pointer (some ⟨g718, 0, none⟩)), (18, .bool true), (19, .bool true), (20, .pointer (some ⟨g763, 0, none⟩)), (21, .bool true), (22, .bool true)] ∧ Sat w0 w (.row 39 2 (.slice Av789 (Lq790).length cv789) (Lq790).length (cells enc39 (Lq790)) :: .box g763 25 #[.string st788, .slice Av789 (Lq790).length cv789, .int .i64 (((rm705)))] :: .row 39 2 (.slice Av758 (Lq759).length cv758) (Lq759).length (cells enc39 (Lq759)) :: .row 39 2 (.slice Av744 (Lq745).length cv744) (Lq745).length (cells enc39 (Lq745)) :: .box g718 25 #[.string st743, .slice Av744 (Lq745).length cv744, .int .i64 (((rm705)))] :: .row 39 2 (.slice Av713 (Lq714).length cv713) (Lq714).length (cells enc39 (Lq714)) :: .box g707 25 #[.string st702, .slice Av703 (Lq704).length cv703, .int .i64 (rm705)] :: .row 39 2 (.slice Av703 (Lq704).length cv703) (Lq704).length (cells enc39 (Lq704)) :: .ro 1 (.slice Av (L).length cv) (L).length (cells encI (L)) :: [])) ?_ ?_
    · skip
      refine ha_startS hS [0] 9 (by kernel_rfl) ?_; clear hS; intro w hS
      have hSS := hS.sub [0] (by decide) rfl (by simp)
      refine ha_y 1 hF rfl rfl rfl (wn_none rfl) (.inr hSS) (yl_move hF rfl rfl) ?_
      clear hF; intro a hF
      refine ha_y 2 hF rfl rfl rfl (wn_none rfl) (.inr hSS) (yl_move hF rfl rfl) ?_
      clear hF; intro a hF
      refine ha_y 4 hF rfl rfl rfl (wn_none rfl) (.inr hSS) (yl_move hF rfl rfl) ?_
      clear hF; intro a hF
      refine ha_l 0 hF rfl rfl rfl (wn_none rfl) hSS (yl_loadK (rs := [_, _, _]) (fun _ h => h) hF rfl rfl 0 rfl ag25 sz25 rfl rfl) ?_
      clear hF; intro a hF
      refine ha_one 3 (by kernel_rfl) rfl (wn_none rfl) (wp_call (vs := [_, _]) hF rfl rfl rfl rfl cf15 (data_any (n3) (1 : Int) _ (by omega)) ?_)
      clear hF; rintro _ w ⟨rfl, hS1⟩ a hF
      replace hS := hS.callB hS1 rfl; clear hS1
      have hz794 := dataF_size (n3) (1 : Int)
      replace hSS := hS.sub [0] (by decide) rfl (by simp)
      refine ⟨.inr hSS, ?_⟩
      refine ha_one 5 (by kernel_rfl) rfl (wn_none rfl) (wp_call (vs := [_, _, _, _]) hF rfl rfl rfl rfl cf14 (write_any st757 _ Lq759 ((rm705)) ((rnd (n1) ((((st702).size : Int) / 8)))) (dataF (n3) (1 : Int)) fua _ (hS.rdRow 1 rfl) (by first | omega | (simp; done)) (by first | omega | (simp; done)) (by first | omega | (simp; done))) ?_)
      clear hF; rintro _ w ⟨st795, v796, Lq797, rm798, b799, rfl, hq800, hS1⟩ a hF
      replace hS := hS.callB hS1 rfl; clear hS1
      obtain ⟨Av796, cv796, rfl⟩ := hS.form 0 rfl
      have hq800b := writeF_bd hq800
      obtain ⟨rfl, -, -, hq800d, hq800s, rfl⟩ := (writeF_ok hq800).resolve_right (fun h9 => h9.2.1 (⟨hq762d, okW_of (by unfold okS okI; omega) (by omega)⟩))
      have hq800i := okD_I hq800d
      replace hSS := hS.sub [1] (by decide) rfl (by simp)
      refine ⟨.inr hSS, ?_⟩
      refine ha_y 6 hF rfl rfl rfl (wn_none rfl) (.inr hSS) (yl_move hF rfl rfl) ?_
      clear hF; intro a hF
      refine ha_y 7 hF rfl rfl rfl (wn_none rfl) (.inr hSS) (yl_extract hF rfl rfl rfl) ?_
      clear hF; intro a hF
      refine ha_y 8 hF rfl rfl rfl (wn_none rfl) (.inr hSS) (yl_extract hF rfl rfl rfl) ?_
      clear hF; intro a hF
      refine ha_one 9 (by kernel_rfl) rfl (wn_none rfl) (wp_store (cs' := #[_, _, _]) hF hS rfl rfl rfl rfl 1 rfl sz25 (by simp [Value.cells, Value.oneCell']) (by simp [Value.cells]) rfl ?_)
      clear hF hS; intro a w hF hS
      refine ⟨.inl (by kernel_rfl), ?_⟩
      refine ha_y 10 hF rfl rfl rfl (wn_none rfl) (.inl (by kernel_rfl)) (yl_assign hF rfl rfl) ?_
      clear hF; intro a hF
      refine ha_done (by kernel_rfl) ?_ _
      refine cut_n ?_
      exact ⟨_, _, _, _, hq800, hq800d, hq800s, hF.to [0, 1, 2, 3, 4, 5, 12, 13, 14, 15, 16, 17, 18, 19, 20, 21, 22] rfl, (hS.sub [0, 1, 2, 3, 4, 5, 6, 7, 8] (by decide) (by first | rfl | simp) (by simp))⟩
    clear hF hS
    rintro a w ⟨st788, Lq790, Av789, cv789, hcut786_0, hcut786_1, hcut786_2, hF, hS⟩
    have hq793 := hcut786_0; have hq793b := writeF_bd hq793
    have hq793d := hcut786_1; have hq793s := hcut786_2; have hq793i := okD_I hq793d
    refine then_n ?_
    refine c_seq ?_
    refine c_region ?_
    have hcm := comm_cur (data8 _) (data8 _) (by assumption) hq717 hq748 hq762 hq793
    have hr1 := read_all (c := ((((st702).size : Int) / 8))) hq748d (by omega) (by omega)
    have hr2 := read_all (c := ((((st702).size : Int) / 8))) hq793d (by omega) (by omega)
    refine seq_yl hF (wn_none rfl) rfl rfl (yl_loadK (rs := [_, _, _]) (fun _ h => h ▸ hS) hF rfl rfl 4 rfl ag25 sz25 rfl rfl) ?_
    clear hF; intro a hF
    refine seq_yl hF (wn_none rfl) rfl rfl (yl_move hF rfl rfl) ?_
    clear hF; intro a hF
    refine seq_wp (wn_none rfl) (wp_call (vs := [_, _, _]) hF rfl rfl rfl rfl cf20 (read_any st743 _ Lq745 (((rm705))) (0 : Int) ((((st702).size : Int) / 8)) _ (hS.rdRow 3 rfl) (by first | omega | (simp; done)) (by first | omega | (simp; done))) ?_)
    clear hF; rintro _ w ⟨rfl, hS1⟩ a hF
    replace hS := hS.callB hS1 rfl; clear hS1
    have hz801 := readF_bd st743 Lq745 (((rm705))) (0 : Int) ((((st702).size : Int) / 8))
    refine seq_yl hF (wn_none rfl) rfl rfl (yl_move hF rfl rfl) ?_
    clear hF; intro a hF
    refine seq_yl hF (wn_none rfl) rfl rfl (yl_extract hF rfl rfl rfl) ?_
    clear hF; intro a hF
    refine seq_yl hF (wn_none rfl) rfl rfl (yl_extract hF rfl rfl rfl) ?_
    clear hF; intro a hF
    refine seq_yl hF (wn_none rfl) rfl rfl (yl_assign hF rfl rfl) ?_
    clear hF; intro a hF
    refine seq_yl hF (wn_none rfl) rfl rfl (yl_assign hF rfl rfl) ?_
    clear hF; intro a hF
    refine wpList_nil ?_
    refine then_n ?_
    refine c_seq ?_
    refine c_region ?_
    refine seq_yl hF (wn_none rfl) rfl rfl (yl_loadK (rs := [_, _, _]) (fun _ h => h ▸ hS) hF rfl rfl 1 rfl ag25 sz25 rfl rfl) ?_
    clear hF; intro a hF
    refine seq_yl hF (wn_none rfl) rfl rfl (yl_move hF rfl rfl) ?_
    clear hF; intro a hF
    refine seq_wp (wn_none rfl) (wp_call (vs := [_, _, _]) hF rfl rfl rfl rfl cf20 (read_any st788 _ Lq790 (((rm705))) (0 : Int) ((((st702).size : Int) / 8)) _ (hS.rdRow 0 rfl) (by first | omega | (simp; done)) (by first | omega | (simp; done))) ?_)
    clear hF; rintro _ w ⟨rfl, hS1⟩ a hF
    replace hS := hS.callB hS1 rfl; clear hS1
    have hz802 := readF_bd st788 Lq790 (((rm705))) (0 : Int) ((((st702).size : Int) / 8))
    refine seq_yl hF (wn_none rfl) rfl rfl (yl_move hF rfl rfl) ?_
    clear hF; intro a hF
    refine seq_yl hF (wn_none rfl) rfl rfl (yl_extract hF rfl rfl rfl) ?_
    clear hF; intro a hF
    refine seq_yl hF (wn_none rfl) rfl rfl (yl_extract hF rfl rfl rfl) ?_
    clear hF; intro a hF
    replace hF := fr_set (b' := true) hF (by rw [hr2])
    refine seq_yl hF (wn_none rfl) rfl rfl (yl_assign hF rfl rfl) ?_
    clear hF; intro a hF
    refine seq_yl hF (wn_none rfl) rfl rfl (yl_assign hF rfl rfl) ?_
    clear hF; intro a hF
    refine wpList_nil ?_
    refine then_n ?_
    refine c_seq ?_
    refine ha_startS hS [4, 1] 25 (by kernel_rfl) ?_; clear hS; intro w hS
    have hSS := hS.sub [4, 1] (by decide) rfl (by simp)
    refine ha_y 0 hF rfl rfl rfl (wn_none rfl) (.inr hSS) (yl_move hF rfl rfl) ?_
    clear hF; intro a hF
    refine ha_y 1 hF rfl rfl rfl (wn_none rfl) (.inr hSS) (yl_move hF rfl rfl) ?_
    clear hF; intro a hF
    refine ha_y 2 hF rfl rfl rfl (wn_t hF rfl rfl rfl rfl) (.inr hSS) (yl_move hF rfl rfl) ?_
    clear hF; intro a hF
    refine ha_y 3 hF rfl rfl rfl (wn_none rfl) (.inr hSS) (yl_pick (u := _) (v := undef) hF rfl rfl (fun _ => rfl) (fun h => by cases h)) ?_
    clear hF; intro a hF
    refine ha_y 4 hF rfl rfl rfl (wn_none rfl) (.inr hSS) (yl_move hF rfl rfl) ?_
    clear hF; intro a hF
    refine ha_y 5 hF rfl rfl rfl (wn_t hF rfl rfl rfl rfl) (.inr hSS) (yl_move hF rfl rfl) ?_
    clear hF; intro a hF
    refine ha_y 6 hF rfl rfl rfl (wn_none rfl) (.inr hSS) (yl_pick (u := _) (v := undef) hF rfl rfl (fun _ => rfl) (fun h => by cases h)) ?_
    clear hF; intro a hF
    refine ha_y 7 hF rfl rfl rfl (wn_none rfl) (.inr hSS) (yl_move hF rfl rfl) ?_
    clear hF; intro a hF
    refine ha_y 8 hF rfl rfl rfl (wn_t hF rfl rfl rfl rfl) (.inr hSS) (yl_move hF rfl rfl) ?_
    clear hF; intro a hF
    refine ha_y 9 hF rfl rfl rfl (wn_t hF rfl rfl rfl rfl) (.inr hSS) (yl_move hF rfl rfl) ?_
    clear hF; intro a hF
    refine ha_y 10 hF rfl rfl rfl (wn_t hF rfl rfl rfl rfl) (.inr hSS) (yl_bin hF rfl rfl rfl rfl (fun _ => run_str_eql)) ?_
    clear hF; intro a hF
    replace hF := fr_set (b' := true) hF (by rw [decide_eq_true_eq, hr1, hr2]; exact hcm)
    refine ha_y 11 hF rfl rfl rfl (wn_none rfl) (.inr hSS) (yl_pick (u := _) (v := undef) hF rfl rfl (fun _ => rfl) (fun h => by cases h)) ?_
    clear hF; intro a hF
    refine ha_y 12 hF rfl rfl rfl (wn_none rfl) (.inr hSS) (yl_move hF rfl rfl) ?_
    clear hF; intro a hF
    refine ha_l 13 hF rfl rfl rfl (wn_t hF rfl rfl rfl rfl) hSS (yl_loadK (rs := [_, _, _]) (fun _ h => h) hF rfl rfl 0 rfl ag25 sz25 rfl rfl) ?_
    clear hF; intro a hF
    refine ha_l 16 hF rfl rfl rfl (wn_t hF rfl rfl rfl rfl) hSS (yl_loadK (rs := [_, _, _]) (fun _ h => h) hF rfl rfl 1 rfl ag25 sz25 rfl rfl) ?_
    clear hF; intro a hF
    refine ha_one 14 (by kernel_rfl) rfl (wn_t hF rfl rfl rfl rfl) (wp_call (vs := [_]) hF rfl rfl rfl rfl cf21 (flush_any st743 _ Lq745 (((rm705))) _ (hS.rdRow 3 rfl) (by first | omega | (simp; done)) (by first | omega | (simp; done))) ?_)
    clear hF; rintro _ w ⟨st803, rm804, v805, rfl, hq806, hE807, hS1⟩ a hF
    replace hS := hS.callB hS1 rfl; clear hS1
    have hq806b := flushF_bd hq806; replace hS := hS.addRo (hE807.rd enc39 2 _); obtain ⟨Av805, cv805, rfl⟩ := (hE807.rd enc39 2 w).form
    replace hSS := hS.sub [5, 2] (by decide) rfl (by simp)
    refine ⟨.inr hSS, ?_⟩
    refine ha_y 15 hF rfl rfl rfl (wn_t hF rfl rfl rfl rfl) (.inr hSS) (yl_field hF rfl rfl (fun w => by kernel_rfl : ∀ w, (Instr.field 25 (.agg #[.string st803, .slice Av805 (([] : List E39)).length cv805, .int .i64 (rm804)]) 0).run Try.prog w = .ok (.string st803) w)) ?_
    clear hF; intro a hF
    refine ha_one 17 (by kernel_rfl) rfl (wn_t hF rfl rfl rfl rfl) (wp_call (vs := [_]) hF rfl rfl rfl rfl cf21 (flush_any st788 _ Lq790 (((rm705))) _ (hS.rdRow 1 rfl) (by first | omega | (simp; done)) (by first | omega | (simp; done))) ?_)
    clear hF; rintro _ w ⟨st808, rm809, v810, rfl, hq811, hE812, hS1⟩ a hF
    replace hS := hS.callB hS1 rfl; clear hS1
    have hq811b := flushF_bd hq811; replace hS := hS.addRo (hE812.rd enc39 2 _); obtain ⟨Av810, cv810, rfl⟩ := (hE812.rd enc39 2 w).form
    replace hSS := hS.sub [6, 3] (by decide) rfl (by simp)
    refine ⟨.inr hSS, ?_⟩
    refine ha_y 18 hF rfl rfl rfl (wn_t hF rfl rfl rfl rfl) (.inr hSS) (yl_field hF rfl rfl (fun w => by kernel_rfl : ∀ w, (Instr.field 25 (.agg #[.string st808, .slice Av810 (([] : List E39)).length cv810, .int .i64 (rm809)]) 0).run Try.prog w = .ok (.string st808) w)) ?_
    clear hF; intro a hF
    refine ha_y 19 hF rfl rfl rfl (wn_t hF rfl rfl rfl rfl) (.inr hSS) (yl_bin hF rfl rfl rfl rfl (fun _ => run_str_eql)) ?_
    clear hF; intro a hF
    replace hF := fr_set (b' := true) hF (by rw [decide_eq_true_eq, (flushF_eq hq748d hq806).1, (flushF_eq hq793d hq811).1]; exact hcm)
    refine ha_y 20 hF rfl rfl rfl (wn_none rfl) (.inr hSS) (yl_pick (u := _) (v := undef) hF rfl rfl (fun _ => rfl) (fun h => by cases h)) ?_
    clear hF; intro a hF
    refine ha_y 21 hF rfl rfl rfl (wn_none rfl) (.inr hSS) (yl_move hF rfl rfl) ?_
    clear hF; intro a hF
    refine ha_one 22 (by kernel_rfl) rfl (wn_t hF rfl rfl rfl rfl) (wp_call (vs := []) hF rfl rfl rfl rfl cf18 (awake_any _) ?_)
    clear hF; rintro _ w ⟨rfl, hS1⟩ a hF
    replace hS := hS.callB hS1 rfl; clear hS1
    replace hSS := hS.sub [6, 3] (by decide) rfl (by simp)
    refine ⟨.inr hSS, ?_⟩
    refine ha_y 23 hF rfl rfl rfl (wn_none rfl) (.inr hSS) (yl_pick (u := _) (v := undef) hF rfl rfl (fun _ => rfl) (fun h => by cases h)) ?_
    clear hF; intro a hF
    refine ha_y 24 hF rfl rfl rfl (wn_none rfl) (.inr hSS) (yl_assign hF rfl rfl) ?_
    clear hF; intro a hF
    refine ha_done (by kernel_rfl) ?_ _
    refine then_n ?_
    refine wp_ret ?_
    refine ret_t hF rfl rfl ?_
    exact ⟨_, rfl, rfl, (hS.sub [] (by decide) (by first | rfl | simp) (by simp))⟩

end Go.Proofs.Yteidhjdkaaddgaa

/- walks, printed by wip/gen -/
import Derived.Test.YteidhjdkaaddgaaWa
import Derived.Test.YteidhjdkaaddgaaW6
import Derived.Test.YteidhjdkaaddgaaW7
import Derived.Test.YteidhjdkaaddgaaWB
namespace Go.Proofs.Yteidhjdkaaddgaa
open Go.RowKit
set_option linter.unusedVariables false
set_option linter.unusedSimpArgs false

set_option maxHeartbeats 2000000 in
set_option maxRecDepth 100000 in
theorem reads_any (v u : Value) (L M : List Int) (w0 : World) (hv : Rd w0 1 v (L).length (cells encI (L))) (hu : Rd w0 1 u (M).length (cells encI (M))) (hL : L.length ≤ 9223372036854775807) (hM : M.length ≤ 9223372036854775807) :
    Fn Try.prog 9 #[v, u] w0 (fun v w' => v = .bool true ∧ Sat w0 w' []) := by
  obtain ⟨Av, cv, rfl⟩ := Rd.form hv
  obtain ⟨Au, cu, rfl⟩ := Rd.form hu
  refine c_enter (N := 125) (l := [_, _]) Try.func9 rfl rfl (fun a w hF hS => ?_)
  replace hS := hS.addRo hu
  replace hS := hS.addRo hv
  refine c_seq ?_
  refine c_region ?_
  refine seq_yl hF (wn_none rfl) rfl rfl (yl_assign hF rfl rfl) ?_
  clear hF; intro a hF
  refine wpList_nil ?_
  refine then_n ?_
  refine c_seq ?_
  refine c_region ?_
  refine seq_yl hF (wn_none rfl) rfl rfl (yl_move hF rfl rfl) ?_
  clear hF; intro a hF
  refine seq_wp (wn_none rfl) (wp_call (vs := [_]) hF rfl rfl rfl rfl cf11 (drive_any _ L _ (hS.rdRo 0 rfl) (by first | omega | (simp; done) | (simp; omega))) ?_)
  clear hF; rintro _ w ⟨st922, v923, Lq924, rm925, rfl, hd926, hS1⟩ a hF
  replace hS := hS.callB hS1 rfl; clear hS1
  obtain ⟨Av923, cv923, rfl⟩ := hS.form 0 rfl
  obtain ⟨hd926d, hd926s⟩ := hd926; have hd926i := okD_I hd926d
  refine seq_wp (wn_none rfl) (wp_alloc (cs := #[_, _, _]) hF hS rfl rfl rfl zr25 rfl ?_)
  clear hF hS; intro a w g927 hF hS
  refine seq_wp (wn_none rfl) (wp_store (cs' := #[_, _, _]) hF hS rfl rfl rfl rfl 0 rfl sz25 (by simp [Value.cells, Value.oneCell']) (by simp [Value.cells]) rfl ?_)
  clear hF hS; intro a w hF hS
  refine wpList_nil ?_
  refine then_n ?_
  refine c_seq ?_
  refine c_region ?_
  refine seq_yl hF (wn_none rfl) rfl rfl (yl_loadK (rs := [_, _, _]) (fun _ h => h ▸ hS) hF rfl rfl 0 rfl ag25 sz25 rfl rfl) ?_
  clear hF; intro a hF
  refine seq_wp (wn_none rfl) (wp_call (vs := [_]) hF rfl rfl rfl rfl cf13 (secs_any st922 _ _ _ (by omega)) ?_)
  clear hF; rintro _ w ⟨rfl, hS1⟩ a hF
  replace hS := hS.callB hS1 rfl; clear hS1
  refine seq_yl hF (wn_none rfl) rfl rfl (yl_assign hF rfl rfl) ?_
  clear hF; intro a hF
  refine wpList_nil ?_
  refine then_n ?_
  refine c_seq ?_
  refine c_region ?_
  refine seq_yl hF (wn_none rfl) rfl rfl (yl_loadK (rs := [_, _, _]) (fun _ h => h ▸ hS) hF rfl rfl 0 rfl ag25 sz25 rfl rfl) ?_
  clear hF; intro a hF
  refine seq_yl hF (wn_none rfl) rfl rfl (yl_move hF rfl rfl) ?_
  clear hF; intro a hF
  refine seq_wp (wn_none rfl) (wp_call (vs := [_, _, _]) hF rfl rfl rfl rfl cf20 (read_any st922 _ Lq924 (rm925) (0 : Int) ((((st922).size : Int) / 8)) _ (hS.rdRow 1 rfl) (by first | omega | (simp; done)) (by first | omega | (simp; done))) ?_)
  clear hF; rintro _ w ⟨rfl, hS1⟩ a hF
  replace hS := hS.callB hS1 rfl; clear hS1
  have hz928 := readF_bd st922 Lq924 (rm925) (0 : Int) ((((st922).size : Int) / 8))
  refine seq_yl hF (wn_none rfl) rfl rfl (yl_move hF rfl rfl) ?_
  clear hF; intro a hF
  refine seq_yl hF (wn_none rfl) rfl rfl (yl_extract hF rfl rfl rfl) ?_
  clear hF; intro a hF
  refine seq_yl hF (wn_none rfl) rfl rfl (yl_extract hF rfl rfl rfl) ?_
  clear hF; intro a hF
  replace hF := fr_set (b' := true) hF (by rw [read_all hd926d rfl (by omega)])
  refine seq_yl hF (wn_none rfl) rfl rfl (yl_assign hF rfl rfl) ?_
  clear hF; intro a hF
  refine seq_yl hF (wn_none rfl) rfl rfl (yl_assign hF rfl rfl) ?_
  clear hF; intro a hF
  refine wpList_nil ?_
  refine then_n ?_
  refine c_seq ?_
  refine c_seq ?_
  refine c_region ?_
  refine seq_yl hF (wn_none rfl) rfl rfl (yl_assign hF rfl rfl) ?_
  clear hF; intro a hF
  refine wpList_nil ?_
  refine then_n ?_
  refine wp_block ?_
  replace hS := hS.toRo 1 rfl
  have hr0 := read_all (c := (((st922).size : Int) / 8)) hd926d rfl (by omega)
  refine c_loop (fun m a w => ∃ (i : Nat) (se : ByteArray) (Le : List E39) (mdl : ByteArray) (AvB : Option Addr) (cvB : Nat), m = 8 - i ∧ (i ≤ 8 ∧ okD se Le rm925 ∧ (se.size : Int) = (st922.size : Int) ∧ mdl = flSt se Le) ∧ Fr 125 a [(1, .slice Au (M).length cu), (5, .pointer (some ⟨g927, 0, none⟩)), (6, .int .i64 ((((st922).size : Int) / 8))), (7, .string mdl), (8, .bool true), (9, .int .i64 ((i : Nat) : Int))] ∧ Sat w0 w (.ro 1 (.slice Au (M).length cu) (M).length (cells encI (M)) :: .box g927 25 #[.string se, .slice AvB (Le).length cvB, .int .i64 (rm925)] :: .ro 2 (.slice AvB (Le).length cvB) (Le).length (cells enc39 (Le)) :: [])) (8 - 0) ?_ ?_
  · exact ⟨0, st922, Lq924, _, Av923, cv923, rfl, ⟨by omega, hd926d, rfl, by rw [hr0]⟩, hF.to [1, 5, 6, 7, 8, 9] rfl, (hS.sub [3, 0, 1] (by decide) (by first | rfl | simp) (by simp))⟩
  · clear hF hS; try clear hSS
    clear a w; rintro m a w ⟨i, se, Le, mdl, AvB, cvB, rfl, hinv, hF, hS⟩
    obtain ⟨hi, hd2, hs2, hmd⟩ := hinv
    have hd2i := okD_I hd2
    have hms := flSt_size hd2
    rw [← hmd] at hms
    refine c_seq ?_
    refine c_seq ?_
    refine c_region ?_
    refine seq_yl hF (wn_none rfl) rfl rfl (yl_move hF rfl rfl) ?_
    clear hF; intro a hF
    refine seq_yl hF (wn_none rfl) rfl rfl (yl_move hF rfl rfl) ?_
    clear hF; intro a hF
    refine seq_yl hF (wn_none rfl) rfl rfl (yl_len hF rfl rfl (fun _ => run_lenRd sl22 (hS.rdRo 0 rfl))) ?_
    clear hF; intro a hF
    refine seq_yl hF (wn_none rfl) rfl rfl (yl_bin hF rfl rfl rfl rfl (fun _ => run_lss)) ?_
    clear hF; intro a hF
    refine seq_yl hF (wn_none rfl) rfl rfl (yl_move hF rfl rfl) ?_
    clear hF; intro a hF
    refine fr_split hF (fun hc929 hF => ?_) (fun hc929 hF => ?_)
    · first | (replace hc929 := of_decide_eq_true hc929) | (replace hc929 := of_decide_eq_false (bnot_t hc929)) | (replace hc929 := bnot_t hc929) | skip
      try (have hc929x := hc929; simp only [okS, okI, okW, okP] at hc929x)
      refine seq_yl hF (wn_t hF rfl rfl rfl rfl) rfl rfl (yl_move hF rfl rfl) ?_
      clear hF; intro a hF
      refine seq_yl hF (wn_t hF rfl rfl rfl rfl) rfl rfl (yl_bin hF rfl rfl rfl rfl (fun _ => run_lss)) ?_
      clear hF; intro a hF
      refine seq_yl hF (wn_none rfl) rfl rfl (yl_pick (u := _) (v := undef) hF rfl rfl (fun _ => rfl) (fun h => by cases h)) ?_
      clear hF; intro a hF
      refine wpList_nil ?_
      refine then_n ?_
      refine c_cond hF rfl (fun hc930 => ?_) (fun hc930 => ?_)
      · first | (replace hc930 := of_decide_eq_true hc930) | (replace hc930 := of_decide_eq_false (bnot_t hc930)) | (replace hc930 := bnot_t hc930) | skip
        try (have hc930x := hc930; simp only [okS, okI, okW, okP] at hc930x)
        refine wp_skip ?_
        refine then_n ?_
        refine c_seq ?_
        refine wp_block ?_
        refine c_seq ?_
        refine c_region ?_
        refine seq_yl hF (wn_none rfl) rfl rfl (yl_move hF rfl rfl) ?_
        clear hF; intro a hF
        refine seq_yl hF (wn_none rfl) rfl rfl (yl_move hF rfl rfl) ?_
        clear hF; intro a hF
        have hlt_hx931 : i < (M).length := by first | omega | (simp; done) | (simp; omega)
        obtain ⟨ad932, rfl⟩ := rd_some (hS.rdRo 0 rfl) hlt_hx931
        obtain ⟨x931, hx931⟩ := get_some hlt_hx931
        refine seq_yl hF (wn_none rfl) rfl rfl (yl_indexAddr hF rfl rfl rfl (fun _ => run_idx' sl22 sz3 (hS.rdRo 0 rfl) hlt_hx931)) ?_
        clear hF; intro a hF
        refine seq_yl hF (wn_none rfl) rfl rfl (yl_loadAt hF rfl rfl ag3 (fun _ h => rd_cell0 (enc := encI) (by subst h; exact hS.rdRo 0 rfl) encI_len hx931 rfl rfl)) ?_
        clear hF; intro a hF
        refine seq_yl hF (wn_none rfl) rfl rfl (yl_assign hF rfl rfl) ?_
        clear hF; intro a hF
        refine wpList_nil ?_
        refine then_n ?_
        refine c_seq ?_
        refine c_seq ?_
        refine c_region ?_
        refine seq_yl hF (wn_none rfl) rfl rfl (yl_move hF rfl rfl) ?_
        clear hF; intro a hF
        refine seq_yl hF (wn_none rfl) rfl rfl (yl_bin hF rfl rfl rfl rfl (fun _ => run_shr (c := 3) (d := 8) (by decide) (by decide))) ?_
        clear hF; intro a hF
        refine seq_yl hF (wn_none rfl) rfl rfl (yl_move hF rfl rfl) ?_
        clear hF; intro a hF
        have hr933 := rnd_any (((x931) / 8)) ((((st922).size : Int) / 8))
        refine seq_wp (wn_none rfl) (wp_call (vs := [_, _]) hF rfl rfl rfl rfl cf12 (round_any (((x931) / 8)) ((((st922).size : Int) / 8)) _ (by omega)) ?_)
        clear hF; rintro _ w ⟨rfl, hS1⟩ a hF
        replace hS := hS.callB hS1 rfl; clear hS1
        refine seq_yl hF (wn_none rfl) rfl rfl (yl_assign hF rfl rfl) ?_
        clear hF; intro a hF
        refine wpList_nil ?_
        refine then_n ?_
        refine c_seq ?_
        refine c_region ?_
        refine seq_yl hF (wn_none rfl) rfl rfl (yl_move hF rfl rfl) ?_
        clear hF; intro a hF
        have hr934 := rnd_any (x931) (4 : Int)
        refine seq_wp (wn_none rfl) (wp_call (vs := [_, _]) hF rfl rfl rfl rfl cf12 (round_any (x931) (4 : Int) _ (by omega)) ?_)
        clear hF; rintro _ w ⟨rfl, hS1⟩ a hF
        replace hS := hS.callB hS1 rfl; clear hS1
        refine wpList_nil ?_
        refine then_n ?_
        refine wp_block ?_
        refine c_seq ?_
        refine c_region ?_
        refine seq_yl hF (wn_none rfl) rfl rfl (yl_bin hF rfl rfl rfl rfl (fun _ => run_eql)) ?_
        clear hF; intro a hF
        refine seq_yl hF (wn_none rfl) rfl rfl (yl_assign hF rfl rfl) ?_
        clear hF; intro a hF
        refine wpList_nil ?_
        refine then_n ?_
        refine c_cond hF rfl (fun hc935 => ?_) (fun hc935 => ?_)
        · first | (replace hc935 := of_decide_eq_true hc935) | (replace hc935 := of_decide_eq_false (bnot_t hc935)) | (replace hc935 := bnot_t hc935) | skip
          try (have hc935x := hc935; simp only [okS, okI, okW, okP] at hc935x)
          refine c_region ?_
          refine seq_yl hF (wn_none rfl) rfl rfl (yl_loadK (rs := [_, _, _]) (fun _ h => h ▸ hS) hF rfl rfl 1 rfl ag25 sz25 rfl rfl) ?_
          clear hF; intro a hF
          refine seq_wp (wn_none rfl) (wp_call (vs := [_]) hF rfl rfl rfl rfl cf21 (flush_any se _ Le (rm925) _ (hS.rdRo 2 rfl) (by first | omega | (simp; done)) (by first | omega | (simp; done))) ?_)
          clear hF; rintro _ w ⟨st936, rm937, v938, rfl, hq939, hE940, hS1⟩ a hF
          replace hS := hS.callB hS1 rfl; clear hS1
          have hq939b := flushF_bd hq939; replace hS := hS.addRo (hE940.rd enc39 2 _); obtain ⟨Av938, cv938, rfl⟩ := (hE940.rd enc39 2 w).form
          obtain ⟨rfl, rfl⟩ := flushF_eq hd2 hq939
          refine seq_wp (wn_none rfl) (wp_store (cs' := #[_, _, _]) hF hS rfl rfl rfl rfl 2 rfl sz25 (by simp [Value.cells, Value.oneCell']) (by simp [Value.cells]) rfl ?_)
          clear hF hS; intro a w hF hS
          refine wpList_nil ?_
          refine inb_n ?_
          refine then_n ?_
          refine c_seq ?_
          refine c_region ?_
          have hdN := okD_fl hd2; have hsN : ((flSt se Le).size : Int) = _ := (flSt_size hd2).trans hs2; have hmN : mdl = flSt (flSt se Le) [] := hmd
          have hdNi := okD_I hdN; have hrN := read_all (c := ((((st922).size : Int) / 8))) hdN (by omega) (by omega)
          refine seq_yl hF (wn_none rfl) rfl rfl (yl_loadK (rs := [_, _, _]) (fun _ h => h ▸ hS) hF rfl rfl 2 rfl ag25 sz25 rfl rfl) ?_
          clear hF; intro a hF
          refine seq_yl hF (wn_none rfl) rfl rfl (yl_move hF rfl rfl) ?_
          clear hF; intro a hF
          refine seq_wp (wn_none rfl) (wp_call (vs := [_, _, _]) hF rfl rfl rfl rfl cf20 (read_any (flSt se Le) _ ([] : List E39) (rm925) (0 : Int) ((((st922).size : Int) / 8)) _ (hS.rdRo 0 rfl) (by first | omega | (simp; done)) (by first | omega | (simp; done))) ?_)
          clear hF; rintro _ w ⟨rfl, hS1⟩ a hF
          replace hS := hS.callB hS1 rfl; clear hS1
          have hz941 := readF_bd (flSt se Le) ([] : List E39) (rm925) (0 : Int) ((((st922).size : Int) / 8))
          refine seq_yl hF (wn_none rfl) rfl rfl (yl_move hF rfl rfl) ?_
          clear hF; intro a hF
          refine seq_yl hF (wn_none rfl) rfl rfl (yl_extract hF rfl rfl rfl) ?_
          clear hF; intro a hF
          refine seq_yl hF (wn_none rfl) rfl rfl (yl_extract hF rfl rfl rfl) ?_
          clear hF; intro a hF
          replace hF := fr_set (b' := true) hF (by rw [hrN])
          refine seq_yl hF (wn_none rfl) rfl rfl (yl_assign hF rfl rfl) ?_
          clear hF; intro a hF
          refine seq_yl hF (wn_none rfl) rfl rfl (yl_assign hF rfl rfl) ?_
          clear hF; intro a hF
          refine wpList_nil ?_
          refine then_n ?_
          refine c_seq ?_
          refine c_region ?_
          refine seq_yl hF (wn_none rfl) rfl rfl (yl_move hF rfl rfl) ?_
          clear hF; intro a hF
          refine seq_yl hF (wn_none rfl) rfl rfl (yl_un hF rfl rfl (fun _ => run_not)) ?_
          clear hF; intro a hF
          refine seq_yl hF (wn_none rfl) rfl rfl (yl_move hF rfl rfl) ?_
          clear hF; intro a hF
          refine seq_yl hF (wn_t hF rfl rfl rfl rfl) rfl rfl (yl_move hF rfl rfl) ?_
          clear hF; intro a hF
          refine seq_yl hF (wn_t hF rfl rfl rfl rfl) rfl rfl (yl_move hF rfl rfl) ?_
          clear hF; intro a hF
          refine seq_yl hF (wn_t hF rfl rfl rfl rfl) rfl rfl (yl_bin hF rfl rfl rfl rfl (fun _ => run_str_neq)) ?_
          clear hF; intro a hF
          replace hF := fr_set (b' := false) hF (by rw [decide_eq_false_iff_not, hrN]; exact not_not_intro hmN.symm)
          refine seq_yl hF (wn_none rfl) rfl rfl (yl_pick (u := _) (v := undef) hF rfl rfl (fun h => by cases h) (fun _ => rfl)) ?_
          clear hF; intro a hF
          refine seq_yl hF (wn_none rfl) rfl rfl (yl_move hF rfl rfl) ?_
          clear hF; intro a hF
          refine seq_yl hF (wn_t hF rfl rfl rfl rfl) rfl rfl (yl_loadK (rs := [_, _, _]) (fun _ h => h ▸ hS) hF rfl rfl 2 rfl ag25 sz25 rfl rfl) ?_
          clear hF; intro a hF
          refine seq_wp (wn_t hF rfl rfl rfl rfl) (wp_call (vs := [_]) hF rfl rfl rfl rfl cf26 (dValid_any (flSt se Le) _ ([] : List E39) (rm925) _ (hS.rdRo 0 rfl) (by first | omega | (simp; done)) (by first | omega | (simp; done))) ?_)
          clear hF; rintro _ w ⟨rfl, hS1⟩ a hF
          replace hS := hS.callB hS1 rfl; clear hS1
          replace hF := fr_set (b' := true) hF (decide_eq_true hdN)
          refine seq_yl hF (wn_t hF rfl rfl rfl rfl) rfl rfl (yl_un hF rfl rfl (fun _ => run_not)) ?_
          clear hF; intro a hF
          refine seq_yl hF (wn_none rfl) rfl rfl (yl_pick (u := _) (v := undef) hF rfl rfl (fun h => by cases h) (fun _ => rfl)) ?_
          clear hF; intro a hF
          refine wpList_nil ?_
          refine then_n ?_
          refine c_cond_f hF rfl ?_
          refine wp_skip ?_
          refine inb_n ?_
          refine then_n ?_
          refine c_region ?_
          refine seq_yl hF (wn_none rfl) rfl rfl (yl_move hF rfl rfl) ?_
          clear hF; intro a hF
          refine seq_yl hF (wn_none rfl) rfl rfl (yl_bin hF rfl rfl rfl rfl (fun _ => run_inc (by omega))) ?_
          clear hF; intro a hF
          refine seq_yl hF (wn_none rfl) rfl rfl (yl_assign hF rfl rfl) ?_
          clear hF; intro a hF
          refine wpList_nil ?_
          refine then_n ?_
          exact ⟨_, (by omega), i + 1, (flSt se Le), ([] : List E39), mdl, Av938, cv938, rfl, ⟨by omega, hdN, hsN, hmN⟩, hF.to [1, 5, 6, 7, 8, 9] rfl, (hS.sub [1, 2, 0] (by decide) (by first | rfl | simp) (by simp))⟩
        · first | (replace hc935 := of_decide_eq_false hc935) | (replace hc935 := of_decide_eq_true (bnot_f hc935)) | (replace hc935 := bnot_f hc935) | skip
          try (have hc935x := hc935; simp only [okS, okI, okW, okP] at hc935x)
          refine c_seq ?_
          refine c_region ?_
          refine seq_yl hF (wn_none rfl) rfl rfl (yl_bin hF rfl rfl rfl rfl (fun _ => run_eql)) ?_
          clear hF; intro a hF
          refine seq_yl hF (wn_none rfl) rfl rfl (yl_assign hF rfl rfl) ?_
          clear hF; intro a hF
          refine wpList_nil ?_
          refine then_n ?_
          refine c_cond hF rfl (fun hc942 => ?_) (fun hc942 => ?_)
          · first | (replace hc942 := of_decide_eq_true hc942) | (replace hc942 := of_decide_eq_false (bnot_t hc942)) | (replace hc942 := bnot_t hc942) | skip
            try (have hc942x := hc942; simp only [okS, okI, okW, okP] at hc942x)
            refine c_seq ?_
            refine c_cut (fun a w => ∃ (st944 : ByteArray) (Lq946 : List E39) (rm947 : Int) (b948 : Bool) (g950 : Nat) (Av945 : Option Addr) (cv945 : Nat), (destF se Le (rm925) ((rnd (((x931) / 8)) (((Le).length : Nat) : Int))) = (st944, Lq946, rm947, b948)) ∧ Fr 125 a [(1, .slice (some ad932) (M).length cu), (5, .pointer (some ⟨g927, 0, none⟩)), (6, .int .i64 ((((st922).size : Int) / 8))), (7, .string mdl), (8, .bool true), (9, .int .i64 ((i : Nat) : Int)), (10, .int .i64 (x931)), (11, .int .i64 ((rnd (((x931) / 8)) ((((st922).size : Int) / 8))))), (12, .pointer (some ⟨g950, 0, none⟩)), (13, .bool b948)] ∧ Sat w0 w (.box g950 25 #[.string st944, .slice Av945 (Lq946).length cv945, .int .i64 (rm947)] :: .row 39 2 (.slice Av945 (Lq946).length cv945) (Lq946).length (cells enc39 (Lq946)) :: .ro 1 (.slice (some ad932) (M).length cu) (M).length (cells encI (M)) :: .box g927 25 #[.string se, .slice AvB (Le).length cvB, .int .i64 (rm925)] :: .ro 2 (.slice AvB (Le).length cvB) (Le).length (cells enc39 (Le)) :: [])) ?_ ?_
            · skip
              refine ha_startS hS [1] 14 (by kernel_rfl) ?_; clear hS; intro w hS
              have hSS := hS.sub [1] (by decide) rfl (by simp)
              refine ha_y 1 hF rfl rfl rfl (wn_none rfl) (.inr hSS) (yl_move hF rfl rfl) ?_
              clear hF; intro a hF
              refine ha_y 2 hF rfl rfl rfl (wn_none rfl) (.inr hSS) (yl_bin hF rfl rfl rfl rfl (fun _ => run_shr (c := 3) (d := 8) (by decide) (by decide))) ?_
              clear hF; intro a hF
              refine ha_y 3 hF rfl rfl rfl (wn_none rfl) (.inr hSS) (yl_fieldAddr hF rfl rfl (fun w => by kernel_rfl : ∀ w, (Instr.fieldAt 25 (.pointer (some ⟨g927, 0, none⟩)) 1).run Try.prog w = .ok (.pointer (some ⟨g927, 1, none⟩)) w)) ?_
              clear hF; intro a hF
              refine ha_l 0 hF rfl rfl rfl (wn_none rfl) hSS (yl_loadK (rs := [_, _, _]) (fun _ h => h) hF rfl rfl 0 rfl ag25 sz25 rfl rfl) ?_
              clear hF; intro a hF
              refine ha_l 4 hF rfl rfl rfl (wn_none rfl) hSS (yl_load (fun _ h => h) hF rfl rfl 0 rfl ag23 rfl) ?_
              clear hF; intro a hF
              refine ha_y 5 hF rfl rfl rfl (wn_none rfl) (.inr hSS) (yl_len hF rfl rfl (fun _ => run_lenRd sl23 (hS.rdRo 2 rfl))) ?_
              clear hF; intro a hF
              refine ha_all (rs := [6, 11]) (by kernel_rfl) (by simp) ?_
              refine List.forall_mem_cons.2 ⟨?_, List.forall_mem_cons.2 ⟨?_, (fun _ h => by cases h)⟩⟩
              · skip
                have hr951 := rnd_any (((x931) / 8)) (((Le).length : Nat) : Int)
                refine ha_op 6 rfl (wn_none rfl) (wp_call (vs := [_, _]) hF rfl rfl rfl rfl cf12 (round_any (((x931) / 8)) (((Le).length : Nat) : Int) _ (by omega)) ?_)
                clear hF; rintro _ w ⟨rfl, hS1⟩ a hF
                replace hS := hS.callB hS1 rfl; clear hS1
                replace hSS := hS.sub [1] (by decide) rfl (by simp)
                refine ⟨.inr hSS, ?_⟩
                refine ha_all (rs := [7, 11]) (by kernel_rfl) (by simp) ?_
                refine List.forall_mem_cons.2 ⟨?_, List.forall_mem_cons.2 ⟨?_, (fun _ h => by cases h)⟩⟩
                · skip
                  refine ha_op 7 rfl (wn_none rfl) (wp_call (vs := [_, _]) hF rfl rfl rfl rfl cf19 (dest_any se _ Le (rm925) ((rnd (((x931) / 8)) (((Le).length : Nat) : Int))) _ (hS.rdRo 2 rfl) (by first | omega | (simp; done)) (by first | omega | (simp; done))) ?_)
                  clear hF; rintro _ w ⟨st952, v953, Lq954, rm955, b956, rfl, hq957, hS1⟩ a hF
                  replace hS := hS.callB hS1 rfl; clear hS1
                  obtain ⟨Av953, cv953, rfl⟩ := hS.form 0 rfl
                  have hq957b := destF_bd hq957
                  replace hSS := hS.sub [2] (by decide) rfl (by simp)
                  refine ⟨.inr hSS, ?_⟩
                  refine ha_y 8 hF rfl rfl rfl (wn_none rfl) (.inr hSS) (yl_move hF rfl rfl) ?_
                  clear hF; intro a hF
                  refine ha_y 9 hF rfl rfl rfl (wn_none rfl) (.inr hSS) (yl_extract hF rfl rfl rfl) ?_
                  clear hF; intro a hF
                  refine ha_y 10 hF rfl rfl rfl (wn_none rfl) (.inr hSS) (yl_extract hF rfl rfl rfl) ?_
                  clear hF; intro a hF
                  refine ha_one 11 (by kernel_rfl) rfl (wn_none rfl) (wp_alloc (cs := #[_, _, _]) hF hS rfl rfl rfl zr25 rfl ?_)
                  clear hF hS; intro a w g958 hF hS
                  replace hSS := hS.sub [3] (by decide) rfl (by simp)
                  refine ⟨.inr hSS, ?_⟩
                  refine ha_one 12 (by kernel_rfl) rfl (wn_none rfl) (wp_store (cs' := #[_, _, _]) hF hS rfl rfl rfl rfl 0 rfl sz25 (by simp [Value.cells, Value.oneCell']) (by simp [Value.cells]) rfl ?_)
                  clear hF hS; intro a w hF hS
                  replace hSS := hS.sub [3] (by decide) rfl (by simp)
                  refine ⟨.inr hSS, ?_⟩
                  refine ha_y 13 hF rfl rfl rfl (wn_none rfl) (.inr hSS) (yl_assign hF rfl rfl) ?_
                  clear hF; intro a hF
                  refine ha_done (by kernel_rfl) ?_ _
                  refine cut_n ?_
                  exact ⟨_, _, _, _, _, _, _, hq957, hF.to [1, 5, 6, 7, 8, 9, 10, 11, 12, 13] rfl, (hS.sub [0, 1, 2, 3, 4] (by decide) (by first | rfl | simp) (by simp))⟩
                · skip
                  refine ha_op 11 rfl (wn_none rfl) (wp_alloc (cs := #[_, _, _]) hF hS rfl rfl rfl zr25 rfl ?_)
                  clear hF hS; intro a w g959 hF hS
                  replace hSS := hS.sub [2] (by decide) rfl (by simp)
                  refine ⟨.inr hSS, ?_⟩
                  refine ha_one 7 (by kernel_rfl) rfl (wn_none rfl) (wp_call (vs := [_, _]) hF rfl rfl rfl rfl cf19 (dest_any se _ Le (rm925) ((rnd (((x931) / 8)) (((Le).length : Nat) : Int))) _ (hS.rdRo 3 rfl) (by first | omega | (simp; done)) (by first | omega | (simp; done))) ?_)
                  clear hF; rintro _ w ⟨st960, v961, Lq962, rm963, b964, rfl, hq965, hS1⟩ a hF
                  replace hS := hS.callB hS1 rfl; clear hS1
                  obtain ⟨Av961, cv961, rfl⟩ := hS.form 0 rfl
                  have hq965b := destF_bd hq965
                  replace hSS := hS.sub [3] (by decide) rfl (by simp)
                  refine ⟨.inr hSS, ?_⟩
                  refine ha_y 8 hF rfl rfl rfl (wn_none rfl) (.inr hSS) (yl_move hF rfl rfl) ?_
                  clear hF; intro a hF
                  refine ha_y 9 hF rfl rfl rfl (wn_none rfl) (.inr hSS) (yl_extract hF rfl rfl rfl) ?_
                  clear hF; intro a hF
                  refine ha_y 10 hF rfl rfl rfl (wn_none rfl) (.inr hSS) (yl_extract hF rfl rfl rfl) ?_
                  clear hF; intro a hF
                  refine ha_one 12 (by kernel_rfl) rfl (wn_none rfl) (wp_store (cs' := #[_, _, _]) hF hS rfl rfl rfl rfl 1 rfl sz25 (by simp [Value.cells, Value.oneCell']) (by simp [Value.cells]) rfl ?_)
                  clear hF hS; intro a w hF hS
                  replace hSS := hS.sub [3] (by decide) rfl (by simp)
                  refine ⟨.inr hSS, ?_⟩
                  refine ha_y 13 hF rfl rfl rfl (wn_none rfl) (.inr hSS) (yl_assign hF rfl rfl) ?_
                  clear hF; intro a hF
                  refine ha_done (by kernel_rfl) ?_ _
                  refine cut_n ?_
                  exact ⟨_, _, _, _, _, _, _, hq965, hF.to [1, 5, 6, 7, 8, 9, 10, 11, 12, 13] rfl, (hS.sub [1, 0, 2, 3, 4] (by decide) (by first | rfl | simp) (by simp))⟩
              · skip
                refine ha_op 11 rfl (wn_none rfl) (wp_alloc (cs := #[_, _, _]) hF hS rfl rfl rfl zr25 rfl ?_)
                clear hF hS; intro a w g966 hF hS
                replace hSS := hS.sub [2] (by decide) rfl (by simp)
                refine ⟨.inr hSS, ?_⟩
                have hr967 := rnd_any (((x931) / 8)) (((Le).length : Nat) : Int)
                refine ha_one 6 (by kernel_rfl) rfl (wn_none rfl) (wp_call (vs := [_, _]) hF rfl rfl rfl rfl cf12 (round_any (((x931) / 8)) (((Le).length : Nat) : Int) _ (by omega)) ?_)
                clear hF; rintro _ w ⟨rfl, hS1⟩ a hF
                replace hS := hS.callB hS1 rfl; clear hS1
                replace hSS := hS.sub [2] (by decide) rfl (by simp)
                refine ⟨.inr hSS, ?_⟩
                refine ha_one 7 (by kernel_rfl) rfl (wn_none rfl) (wp_call (vs := [_, _]) hF rfl rfl rfl rfl cf19 (dest_any se _ Le (rm925) ((rnd (((x931) / 8)) (((Le).length : Nat) : Int))) _ (hS.rdRo 3 rfl) (by first | omega | (simp; done)) (by first | omega | (simp; done))) ?_)
                clear hF; rintro _ w ⟨st968, v969, Lq970, rm971, b972, rfl, hq973, hS1⟩ a hF
                replace hS := hS.callB hS1 rfl; clear hS1
                obtain ⟨Av969, cv969, rfl⟩ := hS.form 0 rfl
                have hq973b := destF_bd hq973
                replace hSS := hS.sub [3] (by decide) rfl (by simp)
                refine ⟨.inr hSS, ?_⟩
                refine ha_y 8 hF rfl rfl rfl (wn_none rfl) (.inr hSS) (yl_move hF rfl rfl) ?_
                clear hF; intro a hF
                refine ha_y 9 hF rfl rfl rfl (wn_none rfl) (.inr hSS) (yl_extract hF rfl rfl rfl) ?_
                clear hF; intro a hF
                refine ha_y 10 hF rfl rfl rfl (wn_none rfl) (.inr hSS) (yl_extract hF rfl rfl rfl) ?_
                clear hF; intro a hF
                refine ha_one 12 (by kernel_rfl) rfl (wn_none rfl) (wp_store (cs' := #[_, _, _]) hF hS rfl rfl rfl rfl 1 rfl sz25 (by simp [Value.cells, Value.oneCell']) (by simp [Value.cells]) rfl ?_)
                clear hF hS; intro a w hF hS
                replace hSS := hS.sub [3] (by decide) rfl (by simp)
                refine ⟨.inr hSS, ?_⟩
                refine ha_y 13 hF rfl rfl rfl (wn_none rfl) (.inr hSS) (yl_assign hF rfl rfl) ?_
                clear hF; intro a hF
                refine ha_done (by kernel_rfl) ?_ _
                refine cut_n ?_
                exact ⟨_, _, _, _, _, _, _, hq973, hF.to [1, 5, 6, 7, 8, 9, 10, 11, 12, 13] rfl, (hS.sub [1, 0, 2, 3, 4] (by decide) (by first | rfl | simp) (by simp))⟩
            clear hF hS
            rintro a w ⟨st944, Lq946, rm947, b948, g950, Av945, cv945, hcut942_0, hF, hS⟩
            have hq949 := hcut942_0; have hq949b := destF_bd hq949
            refine then_n ?_
            refine c_seq ?_
            refine c_region ?_
            refine seq_yl hF (wn_none rfl) rfl rfl (yl_move hF rfl rfl) ?_
            clear hF; intro a hF
            refine wpList_nil ?_
            refine then_n ?_
            refine c_cond hF rfl (fun hc974 => ?_) (fun hc974 => ?_)
            · first | (replace hc974 := of_decide_eq_true hc974) | (replace hc974 := of_decide_eq_false (bnot_t hc974)) | (replace hc974 := bnot_t hc974) | skip
              try (have hc974x := hc974; simp only [okS, okI, okW, okP] at hc974x)
              refine c_region ?_
              have hbt : b948 = true := by assumption
              rw [hbt] at hq949
              have hcd := cur_dest hq949
              obtain ⟨-, -, -, -, hd3, hs3, hr3⟩ := (destF_ok hq949).resolve_right (fun h9 => by cases h9.1)
              subst hr3
              refine seq_yl hF (wn_none rfl) rfl rfl (yl_loadK (rs := [_, _, _]) (fun _ h => h ▸ hS) hF rfl rfl 0 rfl ag25 sz25 rfl rfl) ?_
              clear hF; intro a hF
              refine seq_wp (wn_none rfl) (wp_store (cs' := #[_, _, _]) hF hS rfl rfl rfl rfl 3 rfl sz25 (by simp [Value.cells, Value.oneCell']) (by simp [Value.cells]) rfl ?_)
              clear hF hS; intro a w hF hS
              refine wpList_nil ?_
              refine inb_n ?_
              refine then_n ?_
              refine c_seq ?_
              refine c_region ?_
              have hdN := hd3; have hsN := hs3.trans hs2; have hmN := hmd.trans hcd.symm
              have hdNi := okD_I hdN; have hrN := read_all (c := ((((st922).size : Int) / 8))) hdN (by omega) (by omega)
              refine seq_yl hF (wn_none rfl) rfl rfl (yl_loadK (rs := [_, _, _]) (fun _ h => h ▸ hS) hF rfl rfl 3 rfl ag25 sz25 rfl rfl) ?_
              clear hF; intro a hF
              refine seq_yl hF (wn_none rfl) rfl rfl (yl_move hF rfl rfl) ?_
              clear hF; intro a hF
              refine seq_wp (wn_none rfl) (wp_call (vs := [_, _, _]) hF rfl rfl rfl rfl cf20 (read_any st944 _ Lq946 ((rm925)) (0 : Int) ((((st922).size : Int) / 8)) _ (hS.rdRow 1 rfl) (by first | omega | (simp; done)) (by first | omega | (simp; done))) ?_)
              clear hF; rintro _ w ⟨rfl, hS1⟩ a hF
              replace hS := hS.callB hS1 rfl; clear hS1
              have hz975 := readF_bd st944 Lq946 ((rm925)) (0 : Int) ((((st922).size : Int) / 8))
              refine seq_yl hF (wn_none rfl) rfl rfl (yl_move hF rfl rfl) ?_
              clear hF; intro a hF
              refine seq_yl hF (wn_none rfl) rfl rfl (yl_extract hF rfl rfl rfl) ?_
              clear hF; intro a hF
              refine seq_yl hF (wn_none rfl) rfl rfl (yl_extract hF rfl rfl rfl) ?_
              clear hF; intro a hF
              replace hF := fr_set (b' := true) hF (by rw [hrN])
              refine seq_yl hF (wn_none rfl) rfl rfl (yl_assign hF rfl rfl) ?_
              clear hF; intro a hF
              refine seq_yl hF (wn_none rfl) rfl rfl (yl_assign hF rfl rfl) ?_
              clear hF; intro a hF
              refine wpList_nil ?_
              refine then_n ?_
              refine c_seq ?_
              refine c_region ?_
              refine seq_yl hF (wn_none rfl) rfl rfl (yl_move hF rfl rfl) ?_
              clear hF; intro a hF
              refine seq_yl hF (wn_none rfl) rfl rfl (yl_un hF rfl rfl (fun _ => run_not)) ?_
              clear hF; intro a hF
              refine seq_yl hF (wn_none rfl) rfl rfl (yl_move hF rfl rfl) ?_
              clear hF; intro a hF
              refine seq_yl hF (wn_t hF rfl rfl rfl rfl) rfl rfl (yl_move hF rfl rfl) ?_
              clear hF; intro a hF
              refine seq_yl hF (wn_t hF rfl rfl rfl rfl) rfl rfl (yl_move hF rfl rfl) ?_
              clear hF; intro a hF
              refine seq_yl hF (wn_t hF rfl rfl rfl rfl) rfl rfl (yl_bin hF rfl rfl rfl rfl (fun _ => run_str_neq)) ?_
              clear hF; intro a hF
              replace hF := fr_set (b' := false) hF (by rw [decide_eq_false_iff_not, hrN]; exact not_not_intro hmN.symm)
              refine seq_yl hF (wn_none rfl) rfl rfl (yl_pick (u := _) (v := undef) hF rfl rfl (fun h => by cases h) (fun _ => rfl)) ?_
              clear hF; intro a hF
              refine seq_yl hF (wn_none rfl) rfl rfl (yl_move hF rfl rfl) ?_
              clear hF; intro a hF
              refine seq_yl hF (wn_t hF rfl rfl rfl rfl) rfl rfl (yl_loadK (rs := [_, _, _]) (fun _ h => h ▸ hS) hF rfl rfl 3 rfl ag25 sz25 rfl rfl) ?_
              clear hF; intro a hF
              refine seq_wp (wn_t hF rfl rfl rfl rfl) (wp_call (vs := [_]) hF rfl rfl rfl rfl cf26 (dValid_any st944 _ Lq946 ((rm925)) _ (hS.rdRow 1 rfl) (by first | omega | (simp; done)) (by first | omega | (simp; done))) ?_)
              clear hF; rintro _ w ⟨rfl, hS1⟩ a hF
              replace hS := hS.callB hS1 rfl; clear hS1
              replace hF := fr_set (b' := true) hF (decide_eq_true hdN)
              refine seq_yl hF (wn_t hF rfl rfl rfl rfl) rfl rfl (yl_un hF rfl rfl (fun _ => run_not)) ?_
              clear hF; intro a hF
              refine seq_yl hF (wn_none rfl) rfl rfl (yl_pick (u := _) (v := undef) hF rfl rfl (fun h => by cases h) (fun _ => rfl)) ?_
              clear hF; intro a hF
              refine wpList_nil ?_
              refine then_n ?_
              refine c_cond_f hF rfl ?_
              refine wp_skip ?_
              refine inb_n ?_
              refine then_n ?_
              refine c_region ?_
              refine seq_yl hF (wn_none rfl) rfl rfl (yl_move hF rfl rfl) ?_
              clear hF; intro a hF
              refine seq_yl hF (wn_none rfl) rfl rfl (yl_bin hF rfl rfl rfl rfl (fun _ => run_inc (by omega))) ?_
              clear hF; intro a hF
              refine seq_yl hF (wn_none rfl) rfl rfl (yl_assign hF rfl rfl) ?_
              clear hF; intro a hF
              refine wpList_nil ?_
              refine then_n ?_
              replace hS := hS.toRo 1 rfl
              exact ⟨_, (by omega), i + 1, st944, Lq946, mdl, Av945, cv945, rfl, ⟨by omega, hdN, hsN, hmN⟩, hF.to [1, 5, 6, 7, 8, 9] rfl, (hS.sub [2, 3, 1] (by decide) (by first | rfl | simp) (by simp))⟩
            · first | (replace hc974 := of_decide_eq_false hc974) | (replace hc974 := of_decide_eq_true (bnot_f hc974)) | (replace hc974 := bnot_f hc974) | skip
              try (have hc974x := hc974; simp only [okS, okI, okW, okP] at hc974x)
              refine wp_skip ?_
              refine inb_n ?_
              refine then_n ?_
              refine c_seq ?_
              refine c_region ?_
              have hdN := hd2; have hsN := hs2; have hmN := hmd
              have hdNi := okD_I hdN; have hrN := read_all (c := ((((st922).size : Int) / 8))) hdN (by omega) (by omega)
              refine seq_yl hF (wn_none rfl) rfl rfl (yl_loadK (rs := [_, _, _]) (fun _ h => h ▸ hS) hF rfl rfl 3 rfl ag25 sz25 rfl rfl) ?_
              clear hF; intro a hF
              refine seq_yl hF (wn_none rfl) rfl rfl (yl_move hF rfl rfl) ?_
              clear hF; intro a hF
              refine seq_wp (wn_none rfl) (wp_call (vs := [_, _, _]) hF rfl rfl rfl rfl cf20 (read_any se _ Le (rm925) (0 : Int) ((((st922).size : Int) / 8)) _ (hS.rdRo 4 rfl) (by first | omega | (simp; done)) (by first | omega | (simp; done))) ?_)
              clear hF; rintro _ w ⟨rfl, hS1⟩ a hF
              replace hS := hS.callB hS1 rfl; clear hS1
              have hz976 := readF_bd se Le (rm925) (0 : Int) ((((st922).size : Int) / 8))
              refine seq_yl hF (wn_none rfl) rfl rfl (yl_move hF rfl rfl) ?_
              clear hF; intro a hF
              refine seq_yl hF (wn_none rfl) rfl rfl (yl_extract hF rfl rfl rfl) ?_
              clear hF; intro a hF
              refine seq_yl hF (wn_none rfl) rfl rfl (yl_extract hF rfl rfl rfl) ?_
              clear hF; intro a hF
              replace hF := fr_set (b' := true) hF (by rw [hrN])
              refine seq_yl hF (wn_none rfl) rfl rfl (yl_assign hF rfl rfl) ?_
              clear hF; intro a hF
              refine seq_yl hF (wn_none rfl) rfl rfl (yl_assign hF rfl rfl) ?_
              clear hF; intro a hF
              refine wpList_nil ?_
              refine then_n ?_
              refine c_seq ?_
              refine c_region ?_
              refine seq_yl hF (wn_none rfl) rfl rfl (yl_move hF rfl rfl) ?_
              clear hF; intro a hF
              refine seq_yl hF (wn_none rfl) rfl rfl (yl_un hF rfl rfl (fun _ => run_not)) ?_
              clear hF; intro a hF
              refine seq_yl hF (wn_none rfl) rfl rfl (yl_move hF rfl rfl) ?_
              clear hF; intro a hF
              refine seq_yl hF (wn_t hF rfl rfl rfl rfl) rfl rfl (yl_move hF rfl rfl) ?_
              clear hF; intro a hF
              refine seq_yl hF (wn_t hF rfl rfl rfl rfl) rfl rfl (yl_move hF rfl rfl) ?_
              clear hF; intro a hF
              refine seq_yl hF (wn_t hF rfl rfl rfl rfl) rfl rfl (yl_bin hF rfl rfl rfl rfl (fun _ => run_str_neq)) ?_
              clear hF; intro a hF
              replace hF := fr_set (b' := false) hF (by rw [decide_eq_false_iff_not, hrN]; exact not_not_intro hmN.symm)
              refine seq_yl hF (wn_none rfl) rfl rfl (yl_pick (u := _) (v := undef) hF rfl rfl (fun h => by cases h) (fun _ => rfl)) ?_
              clear hF; intro a hF
              refine seq_yl hF (wn_none rfl) rfl rfl (yl_move hF rfl rfl) ?_
              clear hF; intro a hF
              refine seq_yl hF (wn_t hF rfl rfl rfl rfl) rfl rfl (yl_loadK (rs := [_, _, _]) (fun _ h => h ▸ hS) hF rfl rfl 3 rfl ag25 sz25 rfl rfl) ?_
              clear hF; intro a hF
              refine seq_wp (wn_t hF rfl rfl rfl rfl) (wp_call (vs := [_]) hF rfl rfl rfl rfl cf26 (dValid_any se _ Le (rm925) _ (hS.rdRo 4 rfl) (by first | omega | (simp; done)) (by first | omega | (simp; done))) ?_)
              clear hF; rintro _ w ⟨rfl, hS1⟩ a hF
              replace hS := hS.callB hS1 rfl; clear hS1
              replace hF := fr_set (b' := true) hF (decide_eq_true hdN)
              refine seq_yl hF (wn_t hF rfl rfl rfl rfl) rfl rfl (yl_un hF rfl rfl (fun _ => run_not)) ?_
              clear hF; intro a hF
              refine seq_yl hF (wn_none rfl) rfl rfl (yl_pick (u := _) (v := undef) hF rfl rfl (fun h => by cases h) (fun _ => rfl)) ?_
              clear hF; intro a hF
              refine wpList_nil ?_
              refine then_n ?_
              refine c_cond_f hF rfl ?_
              refine wp_skip ?_
              refine inb_n ?_
              refine then_n ?_
              refine c_region ?_
              refine seq_yl hF (wn_none rfl) rfl rfl (yl_move hF rfl rfl) ?_
              clear hF; intro a hF
              refine seq_yl hF (wn_none rfl) rfl rfl (yl_bin hF rfl rfl rfl rfl (fun _ => run_inc (by omega))) ?_
              clear hF; intro a hF
              refine seq_yl hF (wn_none rfl) rfl rfl (yl_assign hF rfl rfl) ?_
              clear hF; intro a hF
              refine wpList_nil ?_
              refine then_n ?_
              exact ⟨_, (by omega), i + 1, se, Le, mdl, AvB, cvB, rfl, ⟨by omega, hdN, hsN, hmN⟩, hF.to [1, 5, 6, 7, 8, 9] rfl, (hS.sub [2, 3, 4] (by decide) (by first | rfl | simp) (by simp))⟩
          · first | (replace hc942 := of_decide_eq_false hc942) | (replace hc942 := of_decide_eq_true (bnot_f hc942)) | (replace hc942 := bnot_f hc942) | skip
            try (have hc942x := hc942; simp only [okS, okI, okW, okP] at hc942x)
            refine c_seq ?_
            refine c_region ?_
            refine seq_yl hF (wn_none rfl) rfl rfl (yl_move hF rfl rfl) ?_
            clear hF; intro a hF
            refine seq_yl hF (wn_none rfl) rfl rfl (yl_bin hF rfl rfl rfl rfl (fun _ => run_shr (c := 6) (d := 64) (by decide) (by decide))) ?_
            clear hF; intro a hF
            refine seq_yl hF (wn_none rfl) rfl rfl (yl_move hF rfl rfl) ?_
            clear hF; intro a hF
            refine seq_yl hF (wn_none rfl) rfl rfl (yl_move hF rfl rfl) ?_
            clear hF; intro a hF
            refine seq_yl hF (wn_none rfl) rfl rfl (yl_bin hF rfl rfl rfl rfl (fun _ => run_sub (by refine ⟨?_, ?_⟩ <;> omega))) ?_
            clear hF; intro a hF
            refine seq_yl hF (wn_none rfl) rfl rfl (yl_min2 hF rfl rfl rfl) ?_
            clear hF; intro a hF
            have hr977 := rnd_any (((x931) / 64)) ((min (3 : Int) ((((((st922).size : Int) / 8)) - ((rnd (((x931) / 8)) ((((st922).size : Int) / 8))))))))
            refine seq_wp (wn_none rfl) (wp_call (vs := [_, _]) hF rfl rfl rfl rfl cf12 (round_any (((x931) / 64)) ((min (3 : Int) ((((((st922).size : Int) / 8)) - ((rnd (((x931) / 8)) ((((st922).size : Int) / 8)))))))) _ (by omega)) ?_)
            clear hF; rintro _ w ⟨rfl, hS1⟩ a hF
            replace hS := hS.callB hS1 rfl; clear hS1
            refine seq_yl hF (wn_none rfl) rfl rfl (yl_bin hF rfl rfl rfl rfl (fun _ => run_add (by refine ⟨?_, ?_⟩ <;> omega))) ?_
            clear hF; intro a hF
            refine seq_yl hF (wn_none rfl) rfl rfl (yl_assign hF rfl rfl) ?_
            clear hF; intro a hF
            refine wpList_nil ?_
            refine then_n ?_
            refine c_seq ?_
            refine c_cut (fun a w => ∃ (st980 : ByteArray) (Lq982 : List E39) (g986 : Nat) (Av981 : Option Addr) (cv981 : Nat), (writeF se Le (rm925) ((rnd (((x931) / 8)) ((((st922).size : Int) / 8)))) (dataF (((x931) / 256)) (((1 : Int) + ((rnd (((x931) / 64)) ((min (3 : Int) ((((((st922).size : Int) / 8)) - ((rnd (((x931) / 8)) ((((st922).size : Int) / 8))))))))))))) (decide (((rnd (((x931) / 8192)) (4 : Int))) = (0 : Int))) = (st980, Lq982, (rm925), true)) ∧ (okD st980 Lq982 (rm925)) ∧ (((st980).size : Int) = ((se).size : Int)) ∧ Fr 125 a [(1, .slice (some ad932) (M).length cu), (5, .pointer (some ⟨g927, 0, none⟩)), (6, .int .i64 ((((st922).size : Int) / 8))), (7, .string mdl), (8, .bool true), (9, .int .i64 ((i : Nat) : Int)), (10, .int .i64 (x931)), (11, .int .i64 ((rnd (((x931) / 8)) ((((st922).size : Int) / 8))))), (14, .int .i64 (((1 : Int) + ((rnd (((x931) / 64)) ((min (3 : Int) ((((((st922).size : Int) / 8)) - ((rnd (((x931) / 8)) ((((st922).size : Int) / 8))))))))))))), (15, .pointer (some ⟨g986, 0, none⟩)), (16, .bool true)] ∧ Sat w0 w (.box g986 25 #[.string st980, .slice Av981 (Lq982).length cv981, .int .i64 ((rm925))] :: .row 39 2 (.slice Av981 (Lq982).length cv981) (Lq982).length (cells enc39 (Lq982)) :: .ro 1 (.slice (some ad932) (M).length cu) (M).length (cells encI (M)) :: .box g927 25 #[.string se, .slice AvB (Le).length cvB, .int .i64 (rm925)] :: .ro 2 (.slice AvB (Le).length cvB) (Le).length (cells enc39 (Le)) :: [])) ?_ ?_
            · skip
              refine ha_startS hS [1] 17 (by kernel_rfl) ?_; clear hS; intro w hS
              have hSS := hS.sub [1] (by decide) rfl (by simp)
              refine ha_y 1 hF rfl rfl rfl (wn_none rfl) (.inr hSS) (yl_move hF rfl rfl) ?_
              clear hF; intro a hF
              refine ha_y 2 hF rfl rfl rfl (wn_none rfl) (.inr hSS) (yl_move hF rfl rfl) ?_
              clear hF; intro a hF
              refine ha_y 3 hF rfl rfl rfl (wn_none rfl) (.inr hSS) (yl_bin hF rfl rfl rfl rfl (fun _ => run_shr (c := 8) (d := 256) (by decide) (by decide))) ?_
              clear hF; intro a hF
              refine ha_y 4 hF rfl rfl rfl (wn_none rfl) (.inr hSS) (yl_move hF rfl rfl) ?_
              clear hF; intro a hF
              refine ha_y 6 hF rfl rfl rfl (wn_none rfl) (.inr hSS) (yl_move hF rfl rfl) ?_
              clear hF; intro a hF
              refine ha_y 7 hF rfl rfl rfl (wn_none rfl) (.inr hSS) (yl_bin hF rfl rfl rfl rfl (fun _ => run_shr (c := 13) (d := 8192) (by decide) (by decide))) ?_
              clear hF; intro a hF
              refine ha_l 0 hF rfl rfl rfl (wn_none rfl) hSS (yl_loadK (rs := [_, _, _]) (fun _ h => h) hF rfl rfl 0 rfl ag25 sz25 rfl rfl) ?_
              clear hF; intro a hF
              refine ha_all (rs := [5, 14]) (by kernel_rfl) (by simp) ?_
              refine List.forall_mem_cons.2 ⟨?_, List.forall_mem_cons.2 ⟨?_, (fun _ h => by cases h)⟩⟩
              · skip
                refine ha_op 5 rfl (wn_none rfl) (wp_call (vs := [_, _]) hF rfl rfl rfl rfl cf15 (data_any (((x931) / 256)) (((1 : Int) + ((rnd (((x931) / 64)) ((min (3 : Int) ((((((st922).size : Int) / 8)) - ((rnd (((x931) / 8)) ((((st922).size : Int) / 8)))))))))))) _ (by omega)) ?_)
                clear hF; rintro _ w ⟨rfl, hS1⟩ a hF
                replace hS := hS.callB hS1 rfl; clear hS1
                have hz987 := dataF_size (((x931) / 256)) (((1 : Int) + ((rnd (((x931) / 64)) ((min (3 : Int) ((((((st922).size : Int) / 8)) - ((rnd (((x931) / 8)) ((((st922).size : Int) / 8))))))))))))
                replace hSS := hS.sub [1] (by decide) rfl (by simp)
                refine ⟨.inr hSS, ?_⟩
                refine ha_all (rs := [8, 14]) (by kernel_rfl) (by simp) ?_
                refine List.forall_mem_cons.2 ⟨?_, List.forall_mem_cons.2 ⟨?_, (fun _ h => by cases h)⟩⟩
                · skip
                  have hr988 := rnd_any (((x931) / 8192)) (4 : Int)
                  refine ha_op 8 rfl (wn_none rfl) (wp_call (vs := [_, _]) hF rfl rfl rfl rfl cf12 (round_any (((x931) / 8192)) (4 : Int) _ (by omega)) ?_)
                  clear hF; rintro _ w ⟨rfl, hS1⟩ a hF
                  replace hS := hS.callB hS1 rfl; clear hS1
                  replace hSS := hS.sub [1] (by decide) rfl (by simp)
                  refine ⟨.inr hSS, ?_⟩
                  refine ha_y 9 hF rfl rfl rfl (wn_none rfl) (.inr hSS) (yl_bin hF rfl rfl rfl rfl (fun _ => run_eql)) ?_
                  clear hF; intro a hF
                  refine ha_all (rs := [10, 14]) (by kernel_rfl) (by simp) ?_
                  refine List.forall_mem_cons.2 ⟨?_, List.forall_mem_cons.2 ⟨?_, (fun _ h => by cases h)⟩⟩
                  · skip
                    refine ha_op 10 rfl (wn_none rfl) (wp_call (vs := [_, _, _, _]) hF rfl rfl rfl rfl cf14 (write_any se _ Le (rm925) ((rnd (((x931) / 8)) ((((st922).size : Int) / 8)))) (dataF (((x931) / 256)) (((1 : Int) + ((rnd (((x931) / 64)) ((min (3 : Int) ((((((st922).size : Int) / 8)) - ((rnd (((x931) / 8)) ((((st922).size : Int) / 8))))))))))))) (decide (((rnd (((x931) / 8192)) (4 : Int))) = (0 : Int))) _ (hS.rdRo 2 rfl) (by first | omega | (simp; done)) (by first | omega | (simp; done)) (by first | omega | (simp; done))) ?_)
                    clear hF; rintro _ w ⟨st989, v990, Lq991, rm992, b993, rfl, hq994, hS1⟩ a hF
                    replace hS := hS.callB hS1 rfl; clear hS1
                    obtain ⟨Av990, cv990, rfl⟩ := hS.form 0 rfl
                    have hq994b := writeF_bd hq994
                    obtain ⟨rfl, -, -, hq994d, hq994s, rfl⟩ := (writeF_ok hq994).resolve_right (fun h9 => h9.2.1 (⟨hd2, by unfold okW okS okI; omega⟩))
                    have hq994i := okD_I hq994d
                    replace hSS := hS.sub [2] (by decide) rfl (by simp)
                    refine ⟨.inr hSS, ?_⟩
                    refine ha_y 11 hF rfl rfl rfl (wn_none rfl) (.inr hSS) (yl_move hF rfl rfl) ?_
                    clear hF; intro a hF
                    refine ha_y 12 hF rfl rfl rfl (wn_none rfl) (.inr hSS) (yl_extract hF rfl rfl rfl) ?_
                    clear hF; intro a hF
                    refine ha_y 13 hF rfl rfl rfl (wn_none rfl) (.inr hSS) (yl_extract hF rfl rfl rfl) ?_
                    clear hF; intro a hF
                    refine ha_one 14 (by kernel_rfl) rfl (wn_none rfl) (wp_alloc (cs := #[_, _, _]) hF hS rfl rfl rfl zr25 rfl ?_)
                    clear hF hS; intro a w g995 hF hS
                    replace hSS := hS.sub [3] (by decide) rfl (by simp)
                    refine ⟨.inr hSS, ?_⟩
                    refine ha_one 15 (by kernel_rfl) rfl (wn_none rfl) (wp_store (cs' := #[_, _, _]) hF hS rfl rfl rfl rfl 0 rfl sz25 (by simp [Value.cells, Value.oneCell']) (by simp [Value.cells]) rfl ?_)
                    clear hF hS; intro a w hF hS
                    replace hSS := hS.sub [3] (by decide) rfl (by simp)
                    refine ⟨.inr hSS, ?_⟩
                    refine ha_y 16 hF rfl rfl rfl (wn_none rfl) (.inr hSS) (yl_assign hF rfl rfl) ?_
                    clear hF; intro a hF
                    refine ha_done (by kernel_rfl) ?_ _
                    refine cut_n ?_
                    exact ⟨_, _, _, _, _, hq994, hq994d, hq994s, hF.to [1, 5, 6, 7, 8, 9, 10, 11, 14, 15, 16] rfl, (hS.sub [0, 1, 2, 3, 4] (by decide) (by first | rfl | simp) (by simp))⟩
                  · skip
                    refine ha_op 14 rfl (wn_none rfl) (wp_alloc (cs := #[_, _, _]) hF hS rfl rfl rfl zr25 rfl ?_)
                    clear hF hS; intro a w g996 hF hS
                    replace hSS := hS.sub [2] (by decide) rfl (by simp)
                    refine ⟨.inr hSS, ?_⟩
                    refine ha_one 10 (by kernel_rfl) rfl (wn_none rfl) (wp_call (vs := [_, _, _, _]) hF rfl rfl rfl rfl cf14 (write_any se _ Le (rm925) ((rnd (((x931) / 8)) ((((st922).size : Int) / 8)))) (dataF (((x931) / 256)) (((1 : Int) + ((rnd (((x931) / 64)) ((min (3 : Int) ((((((st922).size : Int) / 8)) - ((rnd (((x931) / 8)) ((((st922).size : Int) / 8))))))))))))) (decide (((rnd (((x931) / 8192)) (4 : Int))) = (0 : Int))) _ (hS.rdRo 3 rfl) (by first | omega | (simp; done)) (by first | omega | (simp; done)) (by first | omega | (simp; done))) ?_)
                    clear hF; rintro _ w ⟨st997, v998, Lq999, rm1000, b1001, rfl, hq1002, hS1⟩ a hF
                    replace hS := hS.callB hS1 rfl; clear hS1
                    obtain ⟨Av998, cv998, rfl⟩ := hS.form 0 rfl
                    have hq1002b := writeF_bd hq1002
                    obtain ⟨rfl, -, -, hq1002d, hq1002s, rfl⟩ := (writeF_ok hq1002).resolve_right (fun h9 => h9.2.1 (⟨hd2, by unfold okW okS okI; omega⟩))
                    have hq1002i := okD_I hq1002d
                    replace hSS := hS.sub [3] (by decide) rfl (by simp)
                    refine ⟨.inr hSS, ?_⟩
                    refine ha_y 11 hF rfl rfl rfl (wn_none rfl) (.inr hSS) (yl_move hF rfl rfl) ?_
                    clear hF; intro a hF
                    refine ha_y 12 hF rfl rfl rfl (wn_none rfl) (.inr hSS) (yl_extract hF rfl rfl rfl) ?_
                    clear hF; intro a hF
                    refine ha_y 13 hF rfl rfl rfl (wn_none rfl) (.inr hSS) (yl_extract hF rfl rfl rfl) ?_
                    clear hF; intro a hF
                    refine ha_one 15 (by kernel_rfl) rfl (wn_none rfl) (wp_store (cs' := #[_, _, _]) hF hS rfl rfl rfl rfl 1 rfl sz25 (by simp [Value.cells, Value.oneCell']) (by simp [Value.cells]) rfl ?_)
                    clear hF hS; intro a w hF hS
                    replace hSS := hS.sub [3] (by decide) rfl (by simp)
                    refine ⟨.inr hSS, ?_⟩
                    refine ha_y 16 hF rfl rfl rfl (wn_none rfl) (.inr hSS) (yl_assign hF rfl rfl) ?_
                    clear hF; intro a hF
                    refine ha_done (by kernel_rfl) ?_ _
                    refine cut_n ?_
                    exact ⟨_, _, _, _, _, hq1002, hq1002d, hq1002s, hF.to [1, 5, 6, 7, 8, 9, 10, 11, 14, 15, 16] rfl, (hS.sub [1, 0, 2, 3, 4] (by decide) (by first | rfl | simp) (by simp))⟩
                · skip
                  refine ha_op 14 rfl (wn_none rfl) (wp_alloc (cs := #[_, _, _]) hF hS rfl rfl rfl zr25 rfl ?_)
                  clear hF hS; intro a w g1003 hF hS
                  replace hSS := hS.sub [2] (by decide) rfl (by simp)
                  refine ⟨.inr hSS, ?_⟩
                  have hr1004 := rnd_any (((x931) / 8192)) (4 : Int)
                  refine ha_one 8 (by kernel_rfl) rfl (wn_none rfl) (wp_call (vs := [_, _]) hF rfl rfl rfl rfl cf12 (round_any (((x931) / 8192)) (4 : Int) _ (by omega)) ?_)
                  clear hF; rintro _ w ⟨rfl, hS1⟩ a hF
                  replace hS := hS.callB hS1 rfl; clear hS1
                  replace hSS := hS.sub [2] (by decide) rfl (by simp)
                  refine ⟨.inr hSS, ?_⟩
                  refine ha_y 9 hF rfl rfl rfl (wn_none rfl) (.inr hSS) (yl_bin hF rfl rfl rfl rfl (fun _ => run_eql)) ?_
                  clear hF; intro a hF
                  refine ha_one 10 (by kernel_rfl) rfl (wn_none rfl) (wp_call (vs := [_, _, _, _]) hF rfl rfl rfl rfl cf14 (write_any se _ Le (rm925) ((rnd (((x931) / 8)) ((((st922).size : Int) / 8)))) (dataF (((x931) / 256)) (((1 : Int) + ((rnd (((x931) / 64)) ((min (3 : Int) ((((((st922).size : Int) / 8)) - ((rnd (((x931) / 8)) ((((st922).size : Int) / 8))))))))))))) (decide (((rnd (((x931) / 8192)) (4 : Int))) = (0 : Int))) _ (hS.rdRo 3 rfl) (by first | omega | (simp; done)) (by first | omega | (simp; done)) (by first | omega | (simp; done))) ?_)
                  clear hF; rintro _ w ⟨st1005, v1006, Lq1007, rm1008, b1009, rfl, hq1010, hS1⟩ a hF
                  replace hS := hS.callB hS1 rfl; clear hS1
                  obtain ⟨Av1006, cv1006, rfl⟩ := hS.form 0 rfl
                  have hq1010b := writeF_bd hq1010
                  obtain ⟨rfl, -, -, hq1010d, hq1010s, rfl⟩ := (writeF_ok hq1010).resolve_right (fun h9 => h9.2.1 (⟨hd2, by unfold okW okS okI; omega⟩))
                  have hq1010i := okD_I hq1010d
                  replace hSS := hS.sub [3] (by decide) rfl (by simp)
                  refine ⟨.inr hSS, ?_⟩
                  refine ha_y 11 hF rfl rfl rfl (wn_none rfl) (.inr hSS) (yl_move hF rfl rfl) ?_
                  clear hF; intro a hF
                  refine ha_y 12 hF rfl rfl rfl (wn_none rfl) (.inr hSS) (yl_extract hF rfl rfl rfl) ?_
                  clear hF; intro a hF
                  refine ha_y 13 hF rfl rfl rfl (wn_none rfl) (.inr hSS) (yl_extract hF rfl rfl rfl) ?_
                  clear hF; intro a hF
                  refine ha_one 15 (by kernel_rfl) rfl (wn_none rfl) (wp_store (cs' := #[_, _, _]) hF hS rfl rfl rfl rfl 1 rfl sz25 (by simp [Value.cells, Value.oneCell']) (by simp [Value.cells]) rfl ?_)
                  clear hF hS; intro a w hF hS
                  replace hSS := hS.sub [3] (by decide) rfl (by simp)
                  refine ⟨.inr hSS, ?_⟩
                  refine ha_y 16 hF rfl rfl rfl (wn_none rfl) (.inr hSS) (yl_assign hF rfl rfl) ?_
                  clear hF; intro a hF
                  refine ha_done (by kernel_rfl) ?_ _
                  refine cut_n ?_
                  exact ⟨_, _, _, _, _, hq1010, hq1010d, hq1010s, hF.to [1, 5, 6, 7, 8, 9, 10, 11, 14, 15, 16] rfl, (hS.sub [1, 0, 2, 3, 4] (by decide) (by first | rfl | simp) (by simp))⟩
              · skip
                refine ha_op 14 rfl (wn_none rfl) (wp_alloc (cs := #[_, _, _]) hF hS rfl rfl rfl zr25 rfl ?_)
                clear hF hS; intro a w g1011 hF hS
                replace hSS := hS.sub [2] (by decide) rfl (by simp)
                refine ⟨.inr hSS, ?_⟩
                refine ha_one 5 (by kernel_rfl) rfl (wn_none rfl) (wp_call (vs := [_, _]) hF rfl rfl rfl rfl cf15 (data_any (((x931) / 256)) (((1 : Int) + ((rnd (((x931) / 64)) ((min (3 : Int) ((((((st922).size : Int) / 8)) - ((rnd (((x931) / 8)) ((((st922).size : Int) / 8)))))))))))) _ (by omega)) ?_)
                clear hF; rintro _ w ⟨rfl, hS1⟩ a hF
                replace hS := hS.callB hS1 rfl; clear hS1
                have hz1012 := dataF_size (((x931) / 256)) (((1 : Int) + ((rnd (((x931) / 64)) ((min (3 : Int) ((((((st922).size : Int) / 8)) - ((rnd (((x931) / 8)) ((((st922).size : Int) / 8))))))))))))
                replace hSS := hS.sub [2] (by decide) rfl (by simp)
                refine ⟨.inr hSS, ?_⟩
                have hr1013 := rnd_any (((x931) / 8192)) (4 : Int)
                refine ha_one 8 (by kernel_rfl) rfl (wn_none rfl) (wp_call (vs := [_, _]) hF rfl rfl rfl rfl cf12 (round_any (((x931) / 8192)) (4 : Int) _ (by omega)) ?_)
                clear hF; rintro _ w ⟨rfl, hS1⟩ a hF
                replace hS := hS.callB hS1 rfl; clear hS1
                replace hSS := hS.sub [2] (by decide) rfl (by simp)
                refine ⟨.inr hSS, ?_⟩
                refine ha_y 9 hF rfl rfl rfl (wn_none rfl) (.inr hSS) (yl_bin hF rfl rfl rfl rfl (fun _ => run_eql)) ?_
                clear hF; intro a hF
                refine ha_one 10 (by kernel_rfl) rfl (wn_none rfl) (wp_call (vs := [_, _, _, _]) hF rfl rfl rfl rfl cf14 (write_any se _ Le (rm925) ((rnd (((x931) / 8)) ((((st922).size : Int) / 8)))) (dataF (((x931) / 256)) (((1 : Int) + ((rnd (((x931) / 64)) ((min (3 : Int) ((((((st922).size : Int) / 8)) - ((rnd (((x931) / 8)) ((((st922).size : Int) / 8))))))))))))) (decide (((rnd (((x931) / 8192)) (4 : Int))) = (0 : Int))) _ (hS.rdRo 3 rfl) (by first | omega | (simp; done)) (by first | omega | (simp; done)) (by first | omega | (simp; done))) ?_)
                clear hF; rintro _ w ⟨st1014, v1015, Lq1016, rm1017, b1018, rfl, hq1019, hS1⟩ a hF
                replace hS := hS.callB hS1 rfl; clear hS1
                obtain ⟨Av1015, cv1015, rfl⟩ := hS.form 0 rfl
                have hq1019b := writeF_bd hq1019
                obtain ⟨rfl, -, -, hq1019d, hq1019s, rfl⟩ := (writeF_ok hq1019).resolve_right (fun h9 => h9.2.1 (⟨hd2, by unfold okW okS okI; omega⟩))
                have hq1019i := okD_I hq1019d
                replace hSS := hS.sub [3] (by decide) rfl (by simp)
                refine ⟨.inr hSS, ?_⟩
                refine ha_y 11 hF rfl rfl rfl (wn_none rfl) (.inr hSS) (yl_move hF rfl rfl) ?_
                clear hF; intro a hF
                refine ha_y 12 hF rfl rfl rfl (wn_none rfl) (.inr hSS) (yl_extract hF rfl rfl rfl) ?_
                clear hF; intro a hF
                refine ha_y 13 hF rfl rfl rfl (wn_none rfl) (.inr hSS) (yl_extract hF rfl rfl rfl) ?_
                clear hF; intro a hF
                refine ha_one 15 (by kernel_rfl) rfl (wn_none rfl) (wp_store (cs' := #[_, _, _]) hF hS rfl rfl rfl rfl 1 rfl sz25 (by simp [Value.cells, Value.oneCell']) (by simp [Value.cells]) rfl ?_)
                clear hF hS; intro a w hF hS
                replace hSS := hS.sub [3] (by decide) rfl (by simp)
                refine ⟨.inr hSS, ?_⟩
                refine ha_y 16 hF rfl rfl rfl (wn_none rfl) (.inr hSS) (yl_assign hF rfl rfl) ?_
                clear hF; intro a hF
                refine ha_done (by kernel_rfl) ?_ _
                refine cut_n ?_
                exact ⟨_, _, _, _, _, hq1019, hq1019d, hq1019s, hF.to [1, 5, 6, 7, 8, 9, 10, 11, 14, 15, 16] rfl, (hS.sub [1, 0, 2, 3, 4] (by decide) (by first | rfl | simp) (by simp))⟩
            clear hF hS
            rintro a w ⟨st980, Lq982, g986, Av981, cv981, hcut977_0, hcut977_1, hcut977_2, hF, hS⟩
            have hq985 := hcut977_0; have hq985b := writeF_bd hq985
            have hq985d := hcut977_1; have hq985s := hcut977_2; have hq985i := okD_I hq985d
            refine then_n ?_
            refine c_seq ?_
            refine c_seq ?_
            refine c_region ?_
            refine seq_yl hF (wn_none rfl) rfl rfl (yl_move hF rfl rfl) ?_
            clear hF; intro a hF
            refine seq_yl hF (wn_none rfl) rfl rfl (yl_un hF rfl rfl (fun _ => run_not)) ?_
            clear hF; intro a hF
            refine wpList_nil ?_
            refine then_n ?_
            refine c_cond_f hF rfl ?_
            refine wp_skip ?_
            refine then_n ?_
            refine c_seq ?_
            refine c_region ?_
            refine seq_yl hF (wn_none rfl) rfl rfl (yl_loadK (rs := [_, _, _]) (fun _ h => h ▸ hS) hF rfl rfl 0 rfl ag25 sz25 rfl rfl) ?_
            clear hF; intro a hF
            refine seq_wp (wn_none rfl) (wp_store (cs' := #[_, _, _]) hF hS rfl rfl rfl rfl 3 rfl sz25 (by simp [Value.cells, Value.oneCell']) (by simp [Value.cells]) rfl ?_)
            clear hF hS; intro a w hF hS
            refine wpList_nil ?_
            refine then_n ?_
            refine c_region ?_
            refine seq_yl hF (wn_none rfl) rfl rfl (yl_move hF rfl rfl) ?_
            clear hF; intro a hF
            refine seq_yl hF (wn_none rfl) rfl rfl (yl_move hF rfl rfl) ?_
            clear hF; intro a hF
            refine seq_yl hF (wn_none rfl) rfl rfl (yl_move hF rfl rfl) ?_
            clear hF; intro a hF
            refine seq_yl hF (wn_none rfl) rfl rfl (yl_bin hF rfl rfl rfl rfl (fun _ => run_shr (c := 8) (d := 256) (by decide) (by decide))) ?_
            clear hF; intro a hF
            refine seq_yl hF (wn_none rfl) rfl rfl (yl_move hF rfl rfl) ?_
            clear hF; intro a hF
            refine seq_wp (wn_none rfl) (wp_call (vs := [_, _]) hF rfl rfl rfl rfl cf15 (data_any (((x931) / 256)) (((1 : Int) + ((rnd (((x931) / 64)) ((min (3 : Int) ((((((st922).size : Int) / 8)) - ((rnd (((x931) / 8)) ((((st922).size : Int) / 8)))))))))))) _ (by omega)) ?_)
            clear hF; rintro _ w ⟨rfl, hS1⟩ a hF
            replace hS := hS.callB hS1 rfl; clear hS1
            have hz1020 := dataF_size (((x931) / 256)) (((1 : Int) + ((rnd (((x931) / 64)) ((min (3 : Int) ((((((st922).size : Int) / 8)) - ((rnd (((x931) / 8)) ((((st922).size : Int) / 8))))))))))))
            refine seq_wp (wn_none rfl) (wp_call (vs := [_, _, _]) hF rfl rfl rfl rfl cf31 (imWrite2_any mdl ((rnd (((x931) / 8)) ((((st922).size : Int) / 8)))) (dataF (((x931) / 256)) (((1 : Int) + ((rnd (((x931) / 64)) ((min (3 : Int) ((((((st922).size : Int) / 8)) - ((rnd (((x931) / 8)) ((((st922).size : Int) / 8))))))))))))) _ (by omega) (by omega)) ?_)
            clear hF; rintro _ w ⟨xs1021, e1022, rfl, hsp1023, hS1⟩ a hF
            replace hS := hS.callB hS1 rfl; clear hS1
            have hsp1023z := fun h9 : okW ((mdl).size : Int) ((rnd (((x931) / 8)) ((((st922).size : Int) / 8)))) (((dataF (((x931) / 256)) (((1 : Int) + ((rnd (((x931) / 64)) ((min (3 : Int) ((((((st922).size : Int) / 8)) - ((rnd (((x931) / 8)) ((((st922).size : Int) / 8)))))))))))))).size : Int) => wim_size (im := mdl) (s := ((rnd (((x931) / 8)) ((((st922).size : Int) / 8))))) (x := (dataF (((x931) / 256)) (((1 : Int) + ((rnd (((x931) / 64)) ((min (3 : Int) ((((((st922).size : Int) / 8)) - ((rnd (((x931) / 8)) ((((st922).size : Int) / 8)))))))))))))) h9
            obtain ⟨hk1024, rfl, rfl⟩ := hsp1023.resolve_right (fun h9 => h9.1 (by unfold okW okS okI; omega))
            try (have hk1024x := hk1024; simp only [okS, okI, okW, okP] at hk1024x)
            refine seq_yl hF (wn_none rfl) rfl rfl (yl_move hF rfl rfl) ?_
            clear hF; intro a hF
            refine seq_yl hF (wn_none rfl) rfl rfl (yl_extract hF rfl rfl rfl) ?_
            clear hF; intro a hF
            refine seq_yl hF (wn_none rfl) rfl rfl (yl_extract hF rfl rfl rfl) ?_
            clear hF; intro a hF
            refine seq_yl hF (wn_none rfl) rfl rfl (yl_assign hF rfl rfl) ?_
            clear hF; intro a hF
            refine wpList_nil ?_
            refine inb_n ?_
            refine then_n ?_
            refine c_seq ?_
            refine c_region ?_
            have hdN := hq985d; have hsN := hq985s.trans hs2; have hmN : (wim mdl ((rnd (((x931) / 8)) ((((st922).size : Int) / 8)))) (dataF (((x931) / 256)) (((1 : Int) + ((rnd (((x931) / 64)) ((min (3 : Int) ((((((st922).size : Int) / 8)) - ((rnd (((x931) / 8)) ((((st922).size : Int) / 8)))))))))))))) = flSt st980 Lq982 := by rw [hmd]; exact (cur_write hq985).symm
            have hdNi := okD_I hdN; have hrN := read_all (c := ((((st922).size : Int) / 8))) hdN (by omega) (by omega)
            refine seq_yl hF (wn_none rfl) rfl rfl (yl_loadK (rs := [_, _, _]) (fun _ h => h ▸ hS) hF rfl rfl 3 rfl ag25 sz25 rfl rfl) ?_
            clear hF; intro a hF
            refine seq_yl hF (wn_none rfl) rfl rfl (yl_move hF rfl rfl) ?_
            clear hF; intro a hF
            refine seq_wp (wn_none rfl) (wp_call (vs := [_, _, _]) hF rfl rfl rfl rfl cf20 (read_any st980 _ Lq982 ((rm925)) (0 : Int) ((((st922).size : Int) / 8)) _ (hS.rdRow 1 rfl) (by first | omega | (simp; done)) (by first | omega | (simp; done))) ?_)
            clear hF; rintro _ w ⟨rfl, hS1⟩ a hF
            replace hS := hS.callB hS1 rfl; clear hS1
            have hz1025 := readF_bd st980 Lq982 ((rm925)) (0 : Int) ((((st922).size : Int) / 8))
            refine seq_yl hF (wn_none rfl) rfl rfl (yl_move hF rfl rfl) ?_
            clear hF; intro a hF
            refine seq_yl hF (wn_none rfl) rfl rfl (yl_extract hF rfl rfl rfl) ?_
            clear hF; intro a hF
            refine seq_yl hF (wn_none rfl) rfl rfl (yl_extract hF rfl rfl rfl) ?_
            clear hF; intro a hF
            replace hF := fr_set (b' := true) hF (by rw [hrN])
            refine seq_yl hF (wn_none rfl) rfl rfl (yl_assign hF rfl rfl) ?_
            clear hF; intro a hF
            refine seq_yl hF (wn_none rfl) rfl rfl (yl_assign hF rfl rfl) ?_
            clear hF; intro a hF
            refine wpList_nil ?_
            refine then_n ?_
            refine c_seq ?_
            refine c_region ?_
            refine seq_yl hF (wn_none rfl) rfl rfl (yl_move hF rfl rfl) ?_
            clear hF; intro a hF
            refine seq_yl hF (wn_none rfl) rfl rfl (yl_un hF rfl rfl (fun _ => run_not)) ?_
            clear hF; intro a hF
            refine seq_yl hF (wn_none rfl) rfl rfl (yl_move hF rfl rfl) ?_
            clear hF; intro a hF
            refine seq_yl hF (wn_t hF rfl rfl rfl rfl) rfl rfl (yl_move hF rfl rfl) ?_
            clear hF; intro a hF
            refine seq_yl hF (wn_t hF rfl rfl rfl rfl) rfl rfl (yl_move hF rfl rfl) ?_
            clear hF; intro a hF
            refine seq_yl hF (wn_t hF rfl rfl rfl rfl) rfl rfl (yl_bin hF rfl rfl rfl rfl (fun _ => run_str_neq)) ?_
            clear hF; intro a hF
            replace hF := fr_set (b' := false) hF (by rw [decide_eq_false_iff_not, hrN]; exact not_not_intro hmN.symm)
            refine seq_yl hF (wn_none rfl) rfl rfl (yl_pick (u := _) (v := undef) hF rfl rfl (fun h => by cases h) (fun _ => rfl)) ?_
            clear hF; intro a hF
            refine seq_yl hF (wn_none rfl) rfl rfl (yl_move hF rfl rfl) ?_
            clear hF; intro a hF
            refine seq_yl hF (wn_t hF rfl rfl rfl rfl) rfl rfl (yl_loadK (rs := [_, _, _]) (fun _ h => h ▸ hS) hF rfl rfl 3 rfl ag25 sz25 rfl rfl) ?_
            clear hF; intro a hF
            refine seq_wp (wn_t hF rfl rfl rfl rfl) (wp_call (vs := [_]) hF rfl rfl rfl rfl cf26 (dValid_any st980 _ Lq982 ((rm925)) _ (hS.rdRow 1 rfl) (by first | omega | (simp; done)) (by first | omega | (simp; done))) ?_)
            clear hF; rintro _ w ⟨rfl, hS1⟩ a hF
            replace hS := hS.callB hS1 rfl; clear hS1
            replace hF := fr_set (b' := true) hF (decide_eq_true hdN)
            refine seq_yl hF (wn_t hF rfl rfl rfl rfl) rfl rfl (yl_un hF rfl rfl (fun _ => run_not)) ?_
            clear hF; intro a hF
            refine seq_yl hF (wn_none rfl) rfl rfl (yl_pick (u := _) (v := undef) hF rfl rfl (fun h => by cases h) (fun _ => rfl)) ?_
            clear hF; intro a hF
            refine wpList_nil ?_
            refine then_n ?_
            refine c_cond_f hF rfl ?_
            refine wp_skip ?_
            refine inb_n ?_
            refine then_n ?_
            refine c_region ?_
            refine seq_yl hF (wn_none rfl) rfl rfl (yl_move hF rfl rfl) ?_
            clear hF; intro a hF
            refine seq_yl hF (wn_none rfl) rfl rfl (yl_bin hF rfl rfl rfl rfl (fun _ => run_inc (by omega))) ?_
            clear hF; intro a hF
            refine seq_yl hF (wn_none rfl) rfl rfl (yl_assign hF rfl rfl) ?_
            clear hF; intro a hF
            refine wpList_nil ?_
            refine then_n ?_
            replace hS := hS.toRo 1 rfl
            exact ⟨_, (by omega), i + 1, st980, Lq982, (wim mdl ((rnd (((x931) / 8)) ((((st922).size : Int) / 8)))) (dataF (((x931) / 256)) (((1 : Int) + ((rnd (((x931) / 64)) ((min (3 : Int) ((((((st922).size : Int) / 8)) - ((rnd (((x931) / 8)) ((((st922).size : Int) / 8)))))))))))))), Av981, cv981, rfl, ⟨by omega, hdN, hsN, hmN⟩, hF.to [1, 5, 6, 7, 8, 9] rfl, (hS.sub [2, 3, 1] (by decide) (by first | rfl | simp) (by simp))⟩
      · first | (replace hc930 := of_decide_eq_false hc930) | (replace hc930 := of_decide_eq_true (bnot_f hc930)) | (replace hc930 := bnot_f hc930) | skip
        try (have hc930x := hc930; simp only [okS, okI, okW, okP] at hc930x)
        refine wp_exit ?_
        refine then_x ?_
        refine then_x ?_
        refine inb_x ?_
        refine then_n ?_
        refine c_seq ?_
        refine c_region ?_
        refine seq_yl hF (wn_none rfl) rfl rfl (yl_move hF rfl rfl) ?_
        clear hF; intro a hF
        refine seq_yl hF (wn_none rfl) rfl rfl (yl_move hF rfl rfl) ?_
        clear hF; intro a hF
        refine seq_wp (wn_t hF rfl rfl rfl rfl) (wp_call (vs := []) hF rfl rfl rfl rfl cf18 (awake_any _) ?_)
        clear hF; rintro _ w ⟨rfl, hS1⟩ a hF
        replace hS := hS.callB hS1 rfl; clear hS1
        refine seq_yl hF (wn_none rfl) rfl rfl (yl_pick (u := _) (v := undef) hF rfl rfl (fun _ => rfl) (fun h => by cases h)) ?_
        clear hF; intro a hF
        refine seq_yl hF (wn_none rfl) rfl rfl (yl_assign hF rfl rfl) ?_
        clear hF; intro a hF
        refine wpList_nil ?_
        refine then_n ?_
        refine wp_ret ?_
        refine ret_t hF rfl rfl ?_
        exact ⟨_, rfl, rfl, (hS.sub [] (by decide) (by first | rfl | simp) (by simp))⟩
    · first | (replace hc929 := of_decide_eq_false hc929) | (replace hc929 := of_decide_eq_true (bnot_f hc929)) | (replace hc929 := bnot_f hc929) | skip
      try (have hc929x := hc929; simp only [okS, okI, okW, okP] at hc929x)
      refine seq_skip hF (wn_f hF rfl rfl rfl rfl) rfl rfl ?_
      clear hF; intro a hF
      refine seq_skip hF (wn_f hF rfl rfl rfl rfl) rfl rfl ?_
      clear hF; intro a hF
      refine seq_yl hF (wn_none rfl) rfl rfl (yl_pick (u := _) (v := undef) hF rfl rfl (fun h => by cases h) (fun _ => rfl)) ?_
      clear hF; intro a hF
      refine wpList_nil ?_
      refine then_n ?_
      refine c_cond_f hF rfl ?_
      refine wp_exit ?_
      refine then_x ?_
      refine then_x ?_
      refine inb_x ?_
      refine then_n ?_
      refine c_seq ?_
      refine c_region ?_
      refine seq_yl hF (wn_none rfl) rfl rfl (yl_move hF rfl rfl) ?_
      clear hF; intro a hF
      refine seq_yl hF (wn_none rfl) rfl rfl (yl_move hF rfl rfl) ?_
      clear hF; intro a hF
      refine seq_wp (wn_t hF rfl rfl rfl rfl) (wp_call (vs := []) hF rfl rfl rfl rfl cf18 (awake_any _) ?_)
      clear hF; rintro _ w ⟨rfl, hS1⟩ a hF
      replace hS := hS.callB hS1 rfl; clear hS1
      refine seq_yl hF (wn_none rfl) rfl rfl (yl_pick (u := _) (v := undef) hF rfl rfl (fun _ => rfl) (fun h => by cases h)) ?_
      clear hF; intro a hF
      refine seq_yl hF (wn_none rfl) rfl rfl (yl_assign hF rfl rfl) ?_
      clear hF; intro a hF
      refine wpList_nil ?_
      refine then_n ?_
      refine wp_ret ?_
      refine ret_t hF rfl rfl ?_
      exact ⟨_, rfl, rfl, (hS.sub [] (by decide) (by first | rfl | simp) (by simp))⟩

end Go.Proofs.Yteidhjdkaaddgaa

/- walks, printed by wip/gen -/
import Derived.Test.YtiifpgkdgnoafaaW8
import Derived.Test.YtiifpgkdgnoafaaW6
import Derived.Test.YtiifpgkdgnoafaaP6
namespace Go.Proofs.Ytiifpgkdgnoafaa
open Go.RowKit
set_option linter.unusedVariables false
set_option linter.unusedSimpArgs false

set_option maxHeartbeats 4000000 in
theorem fair_any (v : Value) (L : List Int) (n : Int) (w0 : World) (hv : Rd w0 1 v (L).length (cells encI (L))) (hL : L.length ≤ maxLen) :
    Fn Try.prog 4 #[v, .int .i64 n] w0 (fun v w' => v = .bool true ∧ Sat w0 w' []) := by
  simp only [maxLen] at hL
  obtain ⟨Av, cv, rfl⟩ := Rd.form hv
  refine c_enter (N := 157) (l := [_, _]) Try.func4 rfl rfl (fun a w hF hS => ?_)
  replace hS := hS.addRo hv
  refine c_seq ?_
  refine c_region ?_
  refine seq_yl hF (wn_none rfl) rfl rfl (yl_assign hF rfl rfl) ?_
  clear hF; intro a hF
  refine wpList_nil ?_
  refine then_n ?_
  refine c_seq ?_
  refine c_region ?_
  refine seq_yl hF (wn_none rfl) rfl rfl (yl_move hF rfl rfl) ?_
  clear hF; intro a hF
  refine seq_yl hF (wn_none rfl) rfl rfl (yl_build (parts := [(0, .tmp 16)]) (vs := [(0, _)]) (cs := [_, _]) hF bd25 rfl rfl rfl rfl) ?_
  clear hF; intro a hF
  refine seq_wp (wn_none rfl) (wp_box (cs := #[_, _]) hF hS rfl rfl rfl rfl rfl ?_)
  clear hF hS; intro a w g306 hF hS
  refine seq_yl hF (wn_none rfl) rfl rfl (yl_assign hF rfl rfl) ?_
  clear hF; intro a hF
  refine wpList_nil ?_
  refine then_n ?_
  refine c_seq ?_
  refine c_region ?_
  refine seq_yl hF (wn_none rfl) rfl rfl (yl_move hF rfl rfl) ?_
  clear hF; intro a hF
  refine seq_wp (wn_none rfl) (wp_call (vs := [_]) hF rfl rfl rfl rfl cf8 (groups_any _ _ _ _ _ _ _ (0 : Nat) hS (by omega) (by omega)) ?_)
  clear hF; rintro _ w ⟨v307, G308, it309, rfl, h1G308, h4G308, hRG308, hiit309, hS1⟩ a hF; replace hS := hS1; clear hS1
  obtain ⟨Av307, cv307, rfl⟩ := hS.form 0 rfl
  refine seq_yl hF (wn_none rfl) rfl rfl (yl_assign hF rfl rfl) ?_
  clear hF; intro a hF
  refine wpList_nil ?_
  refine then_n ?_
  refine c_seq ?_
  refine c_seq ?_
  refine c_region ?_
  refine seq_yl hF (wn_none rfl) rfl rfl (yl_move hF rfl rfl) ?_
  clear hF; intro a hF
  refine seq_wp (wn_none rfl) (wp_call (vs := [_]) hF rfl rfl rfl rfl cf19 (check_any _ G308 _ (hS.rdRow 0 rfl) (by first | omega | (simp; done) | (simp; omega) | (rw [chF_len]; first | omega | (simp; done) | (simp; omega)) | (rw [unF_len]; first | omega | (simp; done) | (simp; omega)))) ?_)
  clear hF; rintro _ w ⟨rfl, hS1⟩ a hF
  replace hS := hS.callB hS1 rfl; clear hS1
  refine seq_yl hF (wn_none rfl) rfl rfl (yl_un hF rfl rfl (fun _ => run_not)) ?_
  clear hF; intro a hF
  refine wpList_nil ?_
  refine then_n ?_
  refine c_cond hF rfl (fun hc310 => ?_) (fun hc310 => ?_)
  · first | (replace hc310 := of_decide_eq_true hc310) | (replace hc310 := of_decide_eq_false (bnot_t hc310)) | (subst hc310) | (replace hc310 := bnot_t hc310; subst hc310) | (replace hc310 := bnot_t hc310) | skip
    refine c_seq ?_
    refine c_region ?_
    refine seq_yl hF (wn_none rfl) rfl rfl (yl_move hF rfl rfl) ?_
    clear hF; intro a hF
    have hd312 := divF_len4 G308 (3 : Int)
    refine seq_wp (wn_none rfl) (wp_call (vs := [_, _]) hF rfl rfl rfl rfl cf15 (divide_any _ G308 (3 : Int) (by omega) _ (hS.rdRow 0 rfl) (by first | omega | (simp; done) | (simp; omega) | (rw [chF_len]; first | omega | (simp; done) | (simp; omega)) | (rw [unF_len]; first | omega | (simp; done) | (simp; omega)))) ?_)
    clear hF; rintro _ w ⟨v311, rfl, hS1⟩ a hF
    replace hS := hS.callB hS1 rfl; clear hS1
    obtain ⟨Av311, cv311, rfl⟩ := hS.form 0 rfl
    refine seq_yl hF (wn_none rfl) rfl rfl (yl_len hF rfl rfl (fun _ => run_lenRd sl22 (hS.rdRow 0 rfl))) ?_
    clear hF; intro a hF
    refine seq_yl hF (wn_none rfl) rfl rfl (yl_bin hF rfl rfl rfl rfl (fun _ => run_eql)) ?_
    clear hF; intro a hF
    replace hF := fr_set (b' := true) hF (by rw [divF_no (by assumption)]; rfl)
    refine seq_yl hF (wn_none rfl) rfl rfl (yl_move hF rfl rfl) ?_
    clear hF; intro a hF
    refine seq_wp (wn_t hF rfl rfl rfl rfl) (wp_call (vs := []) hF rfl rfl rfl rfl cf24 (awake_any _) ?_)
    clear hF; rintro _ w ⟨rfl, hS1⟩ a hF
    replace hS := hS.callB hS1 rfl; clear hS1
    refine seq_yl hF (wn_none rfl) rfl rfl (yl_pick (u := _) (v := undef) hF rfl rfl (fun _ => rfl) (fun h => by cases h)) ?_
    clear hF; intro a hF
    refine seq_yl hF (wn_none rfl) rfl rfl (yl_assign hF rfl rfl) ?_
    clear hF; intro a hF
    refine wpList_nil ?_
    refine then_n ?_
    refine wp_ret ?_
    refine then_r ?_
    refine ret_t hF rfl rfl ?_
    exact ⟨_, rfl, rfl, (hS.sub [] (by decide) (by first | rfl | simp) (by simp))⟩
  · first | (replace hc310 := of_decide_eq_false hc310) | (replace hc310 := of_decide_eq_true (bnot_f hc310)) | (subst hc310) | (replace hc310 := bnot_f hc310; subst hc310) | (replace hc310 := bnot_f hc310) | skip
    refine wp_skip ?_
    refine then_n ?_
    refine c_seq ?_
    refine c_region ?_
    obtain ⟨hmem, hl1, hl4⟩ := chkG_inv (L := G308) (by assumption)
    refine seq_yl hF (wn_none rfl) rfl rfl (yl_move hF rfl rfl) ?_
    clear hF; intro a hF
    have hr313 := rnd_bounds (n) (100 : Int) (by omega)
    refine seq_wp (wn_none rfl) (wp_call (vs := [_, _]) hF rfl rfl rfl rfl cf25 (cut_any (n) (100 : Int) _ (by omega) (by omega)) ?_)
    clear hF; rintro _ w ⟨rfl, hS1⟩ a hF
    replace hS := hS.callB hS1 rfl; clear hS1
    refine seq_yl hF (wn_none rfl) rfl rfl (yl_assign hF rfl rfl) ?_
    clear hF; intro a hF
    refine wpList_nil ?_
    refine then_n ?_
    refine c_seq ?_
    refine c_region ?_
    refine seq_yl hF (wn_none rfl) rfl rfl (yl_move hF rfl rfl) ?_
    clear hF; intro a hF
    refine seq_yl hF (wn_none rfl) rfl rfl (yl_move hF rfl rfl) ?_
    clear hF; intro a hF
    have hd315 := divF_len4 G308 ((rnd (n) (100 : Int)))
    refine seq_wp (wn_none rfl) (wp_call (vs := [_, _]) hF rfl rfl rfl rfl cf15 (divide_any _ G308 ((rnd (n) (100 : Int))) (by omega) _ (hS.rdRow 0 rfl) (by first | omega | (simp; done) | (simp; omega) | (rw [chF_len]; first | omega | (simp; done) | (simp; omega)) | (rw [unF_len]; first | omega | (simp; done) | (simp; omega)))) ?_)
    clear hF; rintro _ w ⟨v314, rfl, hS1⟩ a hF
    replace hS := hS.callB hS1 rfl; clear hS1
    obtain ⟨Av314, cv314, rfl⟩ := hS.form 0 rfl
    refine seq_yl hF (wn_none rfl) rfl rfl (yl_assign hF rfl rfl) ?_
    clear hF; intro a hF
    refine wpList_nil ?_
    refine then_n ?_
    refine c_seq ?_
    refine c_seq ?_
    refine c_region ?_
    refine seq_yl hF (wn_none rfl) rfl rfl (yl_move hF rfl rfl) ?_
    clear hF; intro a hF
    refine seq_yl hF (wn_none rfl) rfl rfl (yl_len hF rfl rfl (fun _ => run_lenRd sl22 (hS.rdRow 0 rfl))) ?_
    clear hF; intro a hF
    refine seq_yl hF (wn_none rfl) rfl rfl (yl_move hF rfl rfl) ?_
    clear hF; intro a hF
    refine seq_yl hF (wn_none rfl) rfl rfl (yl_len hF rfl rfl (fun _ => run_lenRd sl26 (hS.rdRow 1 rfl))) ?_
    clear hF; intro a hF
    refine seq_yl hF (wn_none rfl) rfl rfl (yl_bin hF rfl rfl rfl rfl (fun _ => run_neq)) ?_
    clear hF; intro a hF
    replace hF := fr_set (b' := false) hF (by rw [decide_eq_false_iff_not, divF_len (by assumption) (by omega)]; omega)
    refine wpList_nil ?_
    refine then_n ?_
    refine c_cond_f hF rfl ?_
    refine wp_skip ?_
    refine then_n ?_
    refine c_seq ?_
    refine c_region ?_
    refine seq_yl hF (wn_none rfl) rfl rfl (yl_assign hF rfl rfl) ?_
    clear hF; intro a hF
    refine seq_yl hF (wn_none rfl) rfl rfl (yl_assign hF rfl rfl) ?_
    clear hF; intro a hF
    refine seq_yl hF (wn_none rfl) rfl rfl (yl_assign hF rfl rfl) ?_
    clear hF; intro a hF
    refine seq_yl hF (wn_none rfl) rfl rfl (yl_assign hF rfl rfl) ?_
    clear hF; intro a hF
    refine wpList_nil ?_
    refine then_n ?_
    refine c_seq ?_
    refine c_seq ?_
    refine c_region ?_
    refine seq_yl hF (wn_none rfl) rfl rfl (yl_assign hF rfl rfl) ?_
    clear hF; intro a hF
    refine wpList_nil ?_
    refine then_n ?_
    refine wp_block ?_
    have hA := divF_len (L := G308) (n := ((rnd (n) (100 : Int)))) (by assumption) (by omega)
    refine c_loop (fun m a w => ∃ (i : Nat) (t u e : Int) (lo : Bool), m = G308.length - i ∧ (i ≤ G308.length ∧ t = ((divF G308 ((rnd (n) (100 : Int)))).take i).sum ∧ u = allC (G308.take i) ∧ e = sumE (G308.take i) ∧ 0 ≤ t ∧ t ≤ 64 * i ∧ 0 ≤ u ∧ u ≤ 64 * i ∧ 0 ≤ e ∧ e ≤ 64 * i ∧ (lo = true → ∃ (j : Nat) (d : Int) (x : E36), (divF G308 ((rnd (n) (100 : Int))))[j]? = some d ∧ G308[j]? = some x ∧ exF x < d)) ∧ Fr 157 a [(5, .pointer (some ⟨g306, 0, none⟩)), (6, .slice Av307 (G308).length cv307), (7, .int .i64 ((rnd (n) (100 : Int)))), (8, .slice Av314 ((divF G308 ((rnd (n) (100 : Int))))).length cv314), (9, .int .i64 (t)), (10, .int .i64 (u)), (11, .int .i64 (e)), (12, .bool lo), (13, .int .i64 ((i : Nat) : Int))] ∧ Sat w0 w (.row 36 3 (.slice Av307 (G308).length cv307) (G308).length (cells enc36 (G308)) :: .row 3 1 (.slice Av314 ((divF G308 ((rnd (n) (100 : Int))))).length cv314) ((divF G308 ((rnd (n) (100 : Int))))).length (cells encI ((divF G308 ((rnd (n) (100 : Int)))))) :: [])) (G308.length - 0) ?_ ?_
    · exact ⟨0, 0, 0, 0, false, rfl, ⟨Nat.zero_le _, by simp, by simp [allC], by simp [sumE], by omega, by omega, by omega, by omega, by omega, by omega, fun h => by cases h⟩, hF.to [5, 6, 7, 8, 9, 10, 11, 12, 13] rfl, (hS.sub [1, 0] (by decide) (by first | rfl | simp) (by simp))⟩
    · clear hF hS; try clear hSS
      clear a w; rintro m a w ⟨i, t, u, e, lo, rfl, hinv, hF, hS⟩
      obtain ⟨hi, hts, hus, hes, ht0, ht1, hu0, hu1, he0, he1, hlo⟩ := hinv
      refine c_seq ?_
      refine c_seq ?_
      refine c_region ?_
      refine seq_yl hF (wn_none rfl) rfl rfl (yl_move hF rfl rfl) ?_
      clear hF; intro a hF
      refine seq_yl hF (wn_none rfl) rfl rfl (yl_move hF rfl rfl) ?_
      clear hF; intro a hF
      refine seq_yl hF (wn_none rfl) rfl rfl (yl_len hF rfl rfl (fun _ => run_lenRd sl26 (hS.rdRow 0 rfl))) ?_
      clear hF; intro a hF
      refine seq_yl hF (wn_none rfl) rfl rfl (yl_bin hF rfl rfl rfl rfl (fun _ => run_lss)) ?_
      clear hF; intro a hF
      refine wpList_nil ?_
      refine then_n ?_
      refine c_cond hF rfl (fun hc316 => ?_) (fun hc316 => ?_)
      · first | (replace hc316 := of_decide_eq_true hc316) | (replace hc316 := of_decide_eq_false (bnot_t hc316)) | (subst hc316) | (replace hc316 := bnot_t hc316; subst hc316) | (replace hc316 := bnot_t hc316) | skip
        refine wp_skip ?_
        refine then_n ?_
        refine c_seq ?_
        refine wp_block ?_
        refine c_seq ?_
        refine c_seq ?_
        refine ha_startS hS [1, 0] 17 (by kernel_rfl) ?_; clear hS; intro w hS
        have hSS := hS.sub [1, 0] (by decide) rfl (by simp)
        refine ha_yl 0 hF rfl rfl rfl (by kernel_rfl) (by kernel_rfl) (by kernel_rfl) (by decide) (fun _ _ _ h => h) (wn_none rfl) (.inr hSS) (yl_move hF rfl rfl) ?_
        clear hF; intro a hF
        refine ha_yl 1 hF rfl rfl rfl (by kernel_rfl) (by kernel_rfl) (by kernel_rfl) (by decide) (fun _ _ _ h => h) (wn_none rfl) (.inr hSS) (yl_move hF rfl rfl) ?_
        clear hF; intro a hF
        have hlt_hx317 : i < ((divF G308 ((rnd (n) (100 : Int))))).length := by first | omega | (simp; done) | (simp; omega)
        obtain ⟨ad318, rfl⟩ := rd_some (hS.rdRow 1 rfl) hlt_hx317
        obtain ⟨x317, hx317⟩ := get_some hlt_hx317
        refine ha_yl 2 hF rfl rfl rfl (by kernel_rfl) (by kernel_rfl) (by kernel_rfl) (by decide) (fun _ _ _ h => h) (wn_none rfl) (.inr hSS) (yl_indexAddr hF rfl rfl rfl (fun _ => run_idx' sl22 sz3 (hS.rdRow 1 rfl) hlt_hx317)) ?_
        clear hF; intro a hF
        refine ha_ld 3 hF rfl rfl rfl (by kernel_rfl) (by kernel_rfl) (by kernel_rfl) (by decide) (by kernel_rfl) (by kernel_rfl) (fun _ _ _ h => h) (wn_none rfl) hSS (yl_loadAt hF rfl rfl ag3 (fun _ h => rd_cell0 (enc := encI) (Sat.rdRow h 0 rfl) encI_len hx317 rfl rfl)) ?_
        clear hF; intro a hF
        have hdi := divF_in (L := G308) (n := ((rnd (n) (100 : Int)))) (by assumption) (by omega) hx317
        refine ha_yl 4 hF rfl rfl rfl (by kernel_rfl) (by kernel_rfl) (by kernel_rfl) (by decide) (fun _ _ _ h => h) (wn_none rfl) (.inr hSS) (yl_bin hF rfl rfl rfl rfl (fun _ => run_lss)) ?_
        clear hF; intro a hF
        replace hF := fr_set (b' := false) hF (by rw [decide_eq_false_iff_not]; omega)
        refine ha_yl 5 hF rfl rfl rfl (by kernel_rfl) (by kernel_rfl) (by kernel_rfl) (by decide) (fun _ _ _ h => h) (wn_none rfl) (.inr hSS) (yl_move hF rfl rfl) ?_
        clear hF; intro a hF
        refine ha_yl 6 hF rfl rfl rfl (by kernel_rfl) (by kernel_rfl) (by kernel_rfl) (by decide) (fun _ _ _ h => h) (wn_t hF rfl rfl rfl rfl) (.inr hSS) (yl_move hF rfl rfl) ?_
        clear hF; intro a hF
        refine ha_yl 7 hF rfl rfl rfl (by kernel_rfl) (by kernel_rfl) (by kernel_rfl) (by decide) (fun _ _ _ h => h) (wn_t hF rfl rfl rfl rfl) (.inr hSS) (yl_move hF rfl rfl) ?_
        clear hF; intro a hF
        refine ha_yl 8 hF rfl rfl rfl (by kernel_rfl) (by kernel_rfl) (by kernel_rfl) (by decide) (fun _ _ _ h => h) (wn_t hF rfl rfl rfl rfl) (.inr hSS) (yl_indexAddr hF rfl rfl rfl (fun _ => run_idx' sl22 sz3 (hS.rdRow 1 rfl) hlt_hx317)) ?_
        clear hF; intro a hF
        refine ha_yl 10 hF rfl rfl rfl (by kernel_rfl) (by kernel_rfl) (by kernel_rfl) (by decide) (fun _ _ _ h => h) (wn_t hF rfl rfl rfl rfl) (.inr hSS) (yl_move hF rfl rfl) ?_
        clear hF; intro a hF
        refine ha_yl 11 hF rfl rfl rfl (by kernel_rfl) (by kernel_rfl) (by kernel_rfl) (by decide) (fun _ _ _ h => h) (wn_t hF rfl rfl rfl rfl) (.inr hSS) (yl_move hF rfl rfl) ?_
        clear hF; intro a hF
        have hlt_hx319 : i < (G308).length := by first | omega | (simp; done) | (simp; omega)
        obtain ⟨ad320, rfl⟩ := rd_some (hS.rdRow 0 rfl) hlt_hx319
        obtain ⟨x319, hx319⟩ := get_some hlt_hx319
        have hb_x319 := hmem x319 (List.mem_of_getElem? hx319)
        refine ha_yl 12 hF rfl rfl rfl (by kernel_rfl) (by kernel_rfl) (by kernel_rfl) (by decide) (fun _ _ _ h => h) (wn_t hF rfl rfl rfl rfl) (.inr hSS) (yl_indexAddr hF rfl rfl rfl (fun _ => run_idx' sl26 sz36 (hS.rdRow 0 rfl) hlt_hx319)) ?_
        clear hF; intro a hF
        refine ha_yl 13 hF rfl rfl rfl (by kernel_rfl) (by kernel_rfl) (by kernel_rfl) (by decide) (fun _ _ _ h => h) (wn_t hF rfl rfl rfl rfl) (.inr hSS) (yl_fieldAddr hF rfl rfl (fun w => run_fa fo36_2)) ?_
        clear hF; intro a hF
        refine ha_ld 9 hF rfl rfl rfl (by kernel_rfl) (by kernel_rfl) (by kernel_rfl) (by decide) (by kernel_rfl) (by kernel_rfl) (fun _ _ _ h => h) (wn_t hF rfl rfl rfl rfl) hSS (yl_loadAt hF rfl rfl ag3 (fun _ h => rd_cell0 (enc := encI) (Sat.rdRow h 0 rfl) encI_len hx317 rfl rfl)) ?_
        clear hF; intro a hF
        refine ha_ld 14 hF rfl rfl rfl (by kernel_rfl) (by kernel_rfl) (by kernel_rfl) (by decide) (by kernel_rfl) (by kernel_rfl) (fun _ _ _ h => h) (wn_t hF rfl rfl rfl rfl) hSS (yl_loadAt hF rfl rfl ag3 (fun _ h => rd_cell (j := 2) (enc := enc36) (Sat.rdRow h 1 rfl) enc36_len hx319 rfl rfl)) ?_
        clear hF; intro a hF
        have hdl := divF_le (L := G308) (n := ((rnd (n) (100 : Int)))) (by assumption) (by omega) hx317 hx319
        have hf2 := f2_in hb_x319
        refine ha_yl 15 hF rfl rfl rfl (by kernel_rfl) (by kernel_rfl) (by kernel_rfl) (by decide) (fun _ _ _ h => h) (wn_t hF rfl rfl rfl rfl) (.inr hSS) (yl_bin hF rfl rfl rfl rfl (fun _ => run_gtr)) ?_
        clear hF; intro a hF
        replace hF := fr_set (b' := false) hF (by rw [decide_eq_false_iff_not]; omega)
        refine ha_yl 16 hF rfl rfl rfl (by kernel_rfl) (by kernel_rfl) (by kernel_rfl) (by decide) (fun _ _ _ h => h) (wn_none rfl) (.inr hSS) (yl_pick (u := _) (v := undef) hF rfl rfl (fun h => by cases h) (fun _ => rfl)) ?_
        clear hF; intro a hF
        refine ha_done (by kernel_rfl) ?_ _
        refine then_n ?_
        refine c_cond_f hF rfl ?_
        refine wp_skip ?_
        refine then_n ?_
        refine c_seq ?_
        refine ha_startS hS [1, 0] 23 (by kernel_rfl) ?_; clear hS; intro w hS
        have hSS := hS.sub [1, 0] (by decide) rfl (by simp)
        refine ha_yl 0 hF rfl rfl rfl (by kernel_rfl) (by kernel_rfl) (by kernel_rfl) (by decide) (fun _ _ _ h => h) (wn_none rfl) (.inr hSS) (yl_move hF rfl rfl) ?_
        clear hF; intro a hF
        refine ha_yl 1 hF rfl rfl rfl (by kernel_rfl) (by kernel_rfl) (by kernel_rfl) (by decide) (fun _ _ _ h => h) (wn_none rfl) (.inr hSS) (yl_move hF rfl rfl) ?_
        clear hF; intro a hF
        refine ha_yl 2 hF rfl rfl rfl (by kernel_rfl) (by kernel_rfl) (by kernel_rfl) (by decide) (fun _ _ _ h => h) (wn_none rfl) (.inr hSS) (yl_move hF rfl rfl) ?_
        clear hF; intro a hF
        refine ha_yl 3 hF rfl rfl rfl (by kernel_rfl) (by kernel_rfl) (by kernel_rfl) (by decide) (fun _ _ _ h => h) (wn_none rfl) (.inr hSS) (yl_indexAddr hF rfl rfl rfl (fun _ => run_idx' sl22 sz3 (hS.rdRow 1 rfl) hlt_hx317)) ?_
        clear hF; intro a hF
        refine ha_yl 6 hF rfl rfl rfl (by kernel_rfl) (by kernel_rfl) (by kernel_rfl) (by decide) (fun _ _ _ h => h) (wn_none rfl) (.inr hSS) (yl_move hF rfl rfl) ?_
        clear hF; intro a hF
        refine ha_yl 7 hF rfl rfl rfl (by kernel_rfl) (by kernel_rfl) (by kernel_rfl) (by decide) (fun _ _ _ h => h) (wn_none rfl) (.inr hSS) (yl_move hF rfl rfl) ?_
        clear hF; intro a hF
        refine ha_yl 8 hF rfl rfl rfl (by kernel_rfl) (by kernel_rfl) (by kernel_rfl) (by decide) (fun _ _ _ h => h) (wn_none rfl) (.inr hSS) (yl_move hF rfl rfl) ?_
        clear hF; intro a hF
        refine ha_yl 9 hF rfl rfl rfl (by kernel_rfl) (by kernel_rfl) (by kernel_rfl) (by decide) (fun _ _ _ h => h) (wn_none rfl) (.inr hSS) (yl_indexAddr hF rfl rfl rfl (fun _ => run_idx' sl26 sz36 (hS.rdRow 0 rfl) hlt_hx319)) ?_
        clear hF; intro a hF
        refine ha_yl 10 hF rfl rfl rfl (by kernel_rfl) (by kernel_rfl) (by kernel_rfl) (by decide) (fun _ _ _ h => h) (wn_none rfl) (.inr hSS) (yl_fieldAddr hF rfl rfl (fun w => run_fa fo36_2)) ?_
        clear hF; intro a hF
        refine ha_yl 13 hF rfl rfl rfl (by kernel_rfl) (by kernel_rfl) (by kernel_rfl) (by decide) (fun _ _ _ h => h) (wn_none rfl) (.inr hSS) (yl_move hF rfl rfl) ?_
        clear hF; intro a hF
        refine ha_yl 14 hF rfl rfl rfl (by kernel_rfl) (by kernel_rfl) (by kernel_rfl) (by decide) (fun _ _ _ h => h) (wn_none rfl) (.inr hSS) (yl_move hF rfl rfl) ?_
        clear hF; intro a hF
        refine ha_yl 15 hF rfl rfl rfl (by kernel_rfl) (by kernel_rfl) (by kernel_rfl) (by decide) (fun _ _ _ h => h) (wn_none rfl) (.inr hSS) (yl_move hF rfl rfl) ?_
        clear hF; intro a hF
        refine ha_yl 16 hF rfl rfl rfl (by kernel_rfl) (by kernel_rfl) (by kernel_rfl) (by decide) (fun _ _ _ h => h) (wn_none rfl) (.inr hSS) (yl_indexAddr hF rfl rfl rfl (fun _ => run_idx' sl26 sz36 (hS.rdRow 0 rfl) hlt_hx319)) ?_
        clear hF; intro a hF
        refine ha_ld 4 hF rfl rfl rfl (by kernel_rfl) (by kernel_rfl) (by kernel_rfl) (by decide) (by kernel_rfl) (by kernel_rfl) (fun _ _ _ h => h) (wn_none rfl) hSS (yl_loadAt hF rfl rfl ag3 (fun _ h => rd_cell0 (enc := encI) (Sat.rdRow h 0 rfl) encI_len hx317 rfl rfl)) ?_
        clear hF; intro a hF
        refine ha_yl 5 hF rfl rfl rfl (by kernel_rfl) (by kernel_rfl) (by kernel_rfl) (by decide) (fun _ _ _ h => h) (wn_none rfl) (.inr hSS) (yl_bin hF rfl rfl rfl rfl (fun _ => run_add (by refine ⟨?_, ?_⟩ <;> omega))) ?_
        clear hF; intro a hF
        refine ha_ld 11 hF rfl rfl rfl (by kernel_rfl) (by kernel_rfl) (by kernel_rfl) (by decide) (by kernel_rfl) (by kernel_rfl) (fun _ _ _ h => h) (wn_none rfl) hSS (yl_loadAt hF rfl rfl ag3 (fun _ h => rd_cell (j := 2) (enc := enc36) (Sat.rdRow h 1 rfl) enc36_len hx319 rfl rfl)) ?_
        clear hF; intro a hF
        refine ha_yl 12 hF rfl rfl rfl (by kernel_rfl) (by kernel_rfl) (by kernel_rfl) (by decide) (fun _ _ _ h => h) (wn_none rfl) (.inr hSS) (yl_bin hF rfl rfl rfl rfl (fun _ => run_add (by refine ⟨?_, ?_⟩ <;> omega))) ?_
        clear hF; intro a hF
        refine ha_ld 17 hF rfl rfl rfl (by kernel_rfl) (by kernel_rfl) (by kernel_rfl) (by decide) (by kernel_rfl) (by kernel_rfl) (fun _ _ _ h => h) (wn_none rfl) hSS (yl_loadEl (rs := [.int .i64 (x319.f0), .int .i64 (x319.f1), .int .i64 (x319.f2)]) hF rfl rfl ag36 sz36 rfl (fun _ h => rd_cells (enc := enc36) (Sat.rdRow h 1 rfl) enc36_len hx319)) ?_
        clear hF; intro a hF
        have hh321 := exF_in hb_x319
        refine ha_one 18 (by kernel_rfl) rfl (wn_none rfl) (wp_call (vs := [_]) hF rfl rfl rfl rfl cf17 (excess_any x319 _ (by have h9 := hb_x319; unfold okG at h9; exact ⟨by omega, by omega⟩)) ?_)
        clear hF; rintro _ w ⟨rfl, hS1⟩ a hF
        replace hS := hS.callB hS1 rfl; clear hS1
        replace hSS := hS.sub [1, 0] (by decide) rfl (by simp)
        refine ⟨.inr hSS, ?_⟩
        refine ha_yl 19 hF rfl rfl rfl (by kernel_rfl) (by kernel_rfl) (by kernel_rfl) (by decide) (fun _ _ _ h => h) (wn_none rfl) (.inr hSS) (yl_bin hF rfl rfl rfl rfl (fun _ => run_add (by refine ⟨?_, ?_⟩ <;> omega))) ?_
        clear hF; intro a hF
        refine ha_yl 20 hF rfl rfl rfl (by kernel_rfl) (by kernel_rfl) (by kernel_rfl) (by decide) (fun _ _ _ h => h) (wn_none rfl) (.inr hSS) (yl_assign hF rfl rfl) ?_
        clear hF; intro a hF
        refine ha_yl 21 hF rfl rfl rfl (by kernel_rfl) (by kernel_rfl) (by kernel_rfl) (by decide) (fun _ _ _ h => h) (wn_none rfl) (.inr hSS) (yl_assign hF rfl rfl) ?_
        clear hF; intro a hF
        refine ha_yl 22 hF rfl rfl rfl (by kernel_rfl) (by kernel_rfl) (by kernel_rfl) (by decide) (fun _ _ _ h => h) (wn_none rfl) (.inr hSS) (yl_assign hF rfl rfl) ?_
        clear hF; intro a hF
        refine ha_done (by kernel_rfl) ?_ _
        refine then_n ?_
        refine ha_startS hS [1, 0] 14 (by kernel_rfl) ?_; clear hS; intro w hS
        have hSS := hS.sub [1, 0] (by decide) rfl (by simp)
        refine ha_yl 0 hF rfl rfl rfl (by kernel_rfl) (by kernel_rfl) (by kernel_rfl) (by decide) (fun _ _ _ h => h) (wn_none rfl) (.inr hSS) (yl_move hF rfl rfl) ?_
        clear hF; intro a hF
        refine ha_yl 1 hF rfl rfl rfl (by kernel_rfl) (by kernel_rfl) (by kernel_rfl) (by decide) (fun _ _ _ h => h) (wn_none rfl) (.inr hSS) (yl_move hF rfl rfl) ?_
        clear hF; intro a hF
        refine fr_split hF (fun hc322 hF => ?_) (fun hc322 hF => ?_)
        · first | (replace hc322 := of_decide_eq_true hc322) | (replace hc322 := of_decide_eq_false (bnot_t hc322)) | (subst hc322) | (replace hc322 := bnot_t hc322; subst hc322) | (replace hc322 := bnot_t hc322) | skip
          refine ha_skip 2 hF rfl rfl rfl (by kernel_rfl) (by kernel_rfl) (by kernel_rfl) (by decide) (fun _ _ _ h => h) (wn_f hF rfl rfl rfl rfl) (.inr hSS) ?_
          clear hF; intro a hF
          refine ha_skip 3 hF rfl rfl rfl (by kernel_rfl) (by kernel_rfl) (by kernel_rfl) (by decide) (fun _ _ _ h => h) (wn_f hF rfl rfl rfl rfl) (.inr hSS) ?_
          clear hF; intro a hF
          refine ha_skip 4 hF rfl rfl rfl (by kernel_rfl) (by kernel_rfl) (by kernel_rfl) (by decide) (fun _ _ _ h => h) (wn_f hF rfl rfl rfl rfl) (.inr hSS) ?_
          clear hF; intro a hF
          refine ha_skip 5 hF rfl rfl rfl (by kernel_rfl) (by kernel_rfl) (by kernel_rfl) (by decide) (fun _ _ _ h => h) (wn_f hF rfl rfl rfl rfl) (.inr hSS) ?_
          clear hF; intro a hF
          refine ha_skip 6 hF rfl rfl rfl (by kernel_rfl) (by kernel_rfl) (by kernel_rfl) (by decide) (fun _ _ _ h => h) (wn_f hF rfl rfl rfl rfl) (.inr hSS) ?_
          clear hF; intro a hF
          refine ha_skip 7 hF rfl rfl rfl (by kernel_rfl) (by kernel_rfl) (by kernel_rfl) (by decide) (fun _ _ _ h => h) (wn_f hF rfl rfl rfl rfl) (.inr hSS) ?_
          clear hF; intro a hF
          refine ha_skip 8 hF rfl rfl rfl (by kernel_rfl) (by kernel_rfl) (by kernel_rfl) (by decide) (fun _ _ _ h => h) (wn_f hF rfl rfl rfl rfl) (.inr hSS) ?_
          clear hF; intro a hF
          refine ha_skip 9 hF rfl rfl rfl (by kernel_rfl) (by kernel_rfl) (by kernel_rfl) (by decide) (fun _ _ _ h => h) (wn_f hF rfl rfl rfl rfl) (.inr hSS) ?_
          clear hF; intro a hF
          refine ha_skip 10 hF rfl rfl rfl (by kernel_rfl) (by kernel_rfl) (by kernel_rfl) (by decide) (fun _ _ _ h => h) (wn_f hF rfl rfl rfl rfl) (.inr hSS) ?_
          clear hF; intro a hF
          refine ha_skip 11 hF rfl rfl rfl (by kernel_rfl) (by kernel_rfl) (by kernel_rfl) (by decide) (fun _ _ _ h => h) (wn_f hF rfl rfl rfl rfl) (.inr hSS) ?_
          clear hF; intro a hF
          refine ha_yl 12 hF rfl rfl rfl (by kernel_rfl) (by kernel_rfl) (by kernel_rfl) (by decide) (fun _ _ _ h => h) (wn_none rfl) (.inr hSS) (yl_pick (u := _) (v := undef) hF rfl rfl (fun _ => rfl) (fun h => by cases h)) ?_
          clear hF; intro a hF
          refine ha_yl 13 hF rfl rfl rfl (by kernel_rfl) (by kernel_rfl) (by kernel_rfl) (by decide) (fun _ _ _ h => h) (wn_none rfl) (.inr hSS) (yl_assign hF rfl rfl) ?_
          clear hF; intro a hF
          refine ha_done (by kernel_rfl) ?_ _
          refine inb_n ?_
          refine then_n ?_
          refine c_region ?_
          refine seq_yl hF (wn_none rfl) rfl rfl (yl_move hF rfl rfl) ?_
          clear hF; intro a hF
          refine seq_yl hF (wn_none rfl) rfl rfl (yl_bin hF rfl rfl rfl rfl (fun _ => run_inc (by omega))) ?_
          clear hF; intro a hF
          refine seq_yl hF (wn_none rfl) rfl rfl (yl_assign hF rfl rfl) ?_
          clear hF; intro a hF
          refine wpList_nil ?_
          refine then_n ?_
          exact ⟨_, (by omega), i + 1, _, _, _, true, rfl, ⟨by omega, by rw [sumI_step hx317, hts], by rw [sumC_step hx319, hus], by rw [sumE_step hx319, hes], by omega, by omega, by omega, by omega, by omega, by omega, hlo⟩, hF.to [5, 6, 7, 8, 9, 10, 11, 12, 13] rfl, (hS.sub [0, 1] (by decide) (by first | rfl | simp) (by simp))⟩
        · first | (replace hc322 := of_decide_eq_false hc322) | (replace hc322 := of_decide_eq_true (bnot_f hc322)) | (subst hc322) | (replace hc322 := bnot_f hc322; subst hc322) | (replace hc322 := bnot_f hc322) | skip
          refine ha_yl 2 hF rfl rfl rfl (by kernel_rfl) (by kernel_rfl) (by kernel_rfl) (by decide) (fun _ _ _ h => h) (wn_t hF rfl rfl rfl rfl) (.inr hSS) (yl_move hF rfl rfl) ?_
          clear hF; intro a hF
          refine ha_yl 3 hF rfl rfl rfl (by kernel_rfl) (by kernel_rfl) (by kernel_rfl) (by decide) (fun _ _ _ h => h) (wn_t hF rfl rfl rfl rfl) (.inr hSS) (yl_move hF rfl rfl) ?_
          clear hF; intro a hF
          refine ha_yl 4 hF rfl rfl rfl (by kernel_rfl) (by kernel_rfl) (by kernel_rfl) (by decide) (fun _ _ _ h => h) (wn_t hF rfl rfl rfl rfl) (.inr hSS) (yl_indexAddr hF rfl rfl rfl (fun _ => run_idx' sl22 sz3 (hS.rdRow 1 rfl) hlt_hx317)) ?_
          clear hF; intro a hF
          refine ha_yl 6 hF rfl rfl rfl (by kernel_rfl) (by kernel_rfl) (by kernel_rfl) (by decide) (fun _ _ _ h => h) (wn_t hF rfl rfl rfl rfl) (.inr hSS) (yl_move hF rfl rfl) ?_
          clear hF; intro a hF
          refine ha_yl 7 hF rfl rfl rfl (by kernel_rfl) (by kernel_rfl) (by kernel_rfl) (by decide) (fun _ _ _ h => h) (wn_t hF rfl rfl rfl rfl) (.inr hSS) (yl_move hF rfl rfl) ?_
          clear hF; intro a hF
          refine ha_yl 8 hF rfl rfl rfl (by kernel_rfl) (by kernel_rfl) (by kernel_rfl) (by decide) (fun _ _ _ h => h) (wn_t hF rfl rfl rfl rfl) (.inr hSS) (yl_indexAddr hF rfl rfl rfl (fun _ => run_idx' sl26 sz36 (hS.rdRow 0 rfl) hlt_hx319)) ?_
          clear hF; intro a hF
          refine ha_ld 5 hF rfl rfl rfl (by kernel_rfl) (by kernel_rfl) (by kernel_rfl) (by decide) (by kernel_rfl) (by kernel_rfl) (fun _ _ _ h => h) (wn_t hF rfl rfl rfl rfl) hSS (yl_loadAt hF rfl rfl ag3 (fun _ h => rd_cell0 (enc := encI) (Sat.rdRow h 0 rfl) encI_len hx317 rfl rfl)) ?_
          clear hF; intro a hF
          refine ha_ld 9 hF rfl rfl rfl (by kernel_rfl) (by kernel_rfl) (by kernel_rfl) (by decide) (by kernel_rfl) (by kernel_rfl) (fun _ _ _ h => h) (wn_t hF rfl rfl rfl rfl) hSS (yl_loadEl (rs := [.int .i64 (x319.f0), .int .i64 (x319.f1), .int .i64 (x319.f2)]) hF rfl rfl ag36 sz36 rfl (fun _ h => rd_cells (enc := enc36) (Sat.rdRow h 1 rfl) enc36_len hx319)) ?_
          clear hF; intro a hF
          have hh323 := exF_in hb_x319
          refine ha_one 10 (by kernel_rfl) rfl (wn_t hF rfl rfl rfl rfl) (wp_call (vs := [_]) hF rfl rfl rfl rfl cf17 (excess_any x319 _ (by have h9 := hb_x319; unfold okG at h9; exact ⟨by omega, by omega⟩)) ?_)
          clear hF; rintro _ w ⟨rfl, hS1⟩ a hF
          replace hS := hS.callB hS1 rfl; clear hS1
          replace hSS := hS.sub [1, 0] (by decide) rfl (by simp)
          refine ⟨.inr hSS, ?_⟩
          refine ha_yl 11 hF rfl rfl rfl (by kernel_rfl) (by kernel_rfl) (by kernel_rfl) (by decide) (fun _ _ _ h => h) (wn_t hF rfl rfl rfl rfl) (.inr hSS) (yl_bin hF rfl rfl rfl rfl (fun _ => run_gtr)) ?_
          clear hF; intro a hF
          refine ha_yl 12 hF rfl rfl rfl (by kernel_rfl) (by kernel_rfl) (by kernel_rfl) (by decide) (fun _ _ _ h => h) (wn_none rfl) (.inr hSS) (yl_pick (u := _) (v := undef) hF rfl rfl (fun h => by cases h) (fun _ => rfl)) ?_
          clear hF; intro a hF
          refine ha_yl 13 hF rfl rfl rfl (by kernel_rfl) (by kernel_rfl) (by kernel_rfl) (by decide) (fun _ _ _ h => h) (wn_none rfl) (.inr hSS) (yl_assign hF rfl rfl) ?_
          clear hF; intro a hF
          refine ha_done (by kernel_rfl) ?_ _
          refine inb_n ?_
          refine then_n ?_
          refine c_region ?_
          refine seq_yl hF (wn_none rfl) rfl rfl (yl_move hF rfl rfl) ?_
          clear hF; intro a hF
          refine seq_yl hF (wn_none rfl) rfl rfl (yl_bin hF rfl rfl rfl rfl (fun _ => run_inc (by omega))) ?_
          clear hF; intro a hF
          refine seq_yl hF (wn_none rfl) rfl rfl (yl_assign hF rfl rfl) ?_
          clear hF; intro a hF
          refine wpList_nil ?_
          refine then_n ?_
          exact ⟨_, (by omega), i + 1, _, _, _, (decide (((exF x319)) < (x317))), rfl, ⟨by omega, by rw [sumI_step hx317, hts], by rw [sumC_step hx319, hus], by rw [sumE_step hx319, hes], by omega, by omega, by omega, by omega, by omega, by omega, fun h => ⟨i, _, _, hx317, hx319, of_decide_eq_true h⟩⟩, hF.to [5, 6, 7, 8, 9, 10, 11, 12, 13] rfl, (hS.sub [0, 1] (by decide) (by first | rfl | simp) (by simp))⟩
      · first | (replace hc316 := of_decide_eq_false hc316) | (replace hc316 := of_decide_eq_true (bnot_f hc316)) | (subst hc316) | (replace hc316 := bnot_f hc316; subst hc316) | (replace hc316 := bnot_f hc316) | skip
        refine wp_exit ?_
        refine then_x ?_
        refine then_x ?_
        refine inb_x ?_
        refine then_n ?_
        refine c_seq ?_
        refine c_seq ?_
        refine c_region ?_
        have hsA := divF_sum (L := G308) (n := ((rnd (n) (100 : Int)))) (by assumption) (by omega)
        rw [List.take_of_length_le (by omega)] at hes hus
        rw [List.take_of_length_le (by rw [divF_len (by assumption) (by omega)]; omega)] at hts
        refine seq_yl hF (wn_none rfl) rfl rfl (yl_move hF rfl rfl) ?_
        clear hF; intro a hF
        refine seq_yl hF (wn_none rfl) rfl rfl (yl_move hF rfl rfl) ?_
        clear hF; intro a hF
        refine seq_yl hF (wn_none rfl) rfl rfl (yl_move hF rfl rfl) ?_
        clear hF; intro a hF
        refine seq_yl hF (wn_none rfl) rfl rfl (yl_min2 hF rfl rfl rfl) ?_
        clear hF; intro a hF
        refine seq_yl hF (wn_none rfl) rfl rfl (yl_bin hF rfl rfl rfl rfl (fun _ => run_neq)) ?_
        clear hF; intro a hF
        replace hF := fr_set (b' := false) hF (by rw [decide_eq_false_iff_not]; omega)
        refine seq_yl hF (wn_none rfl) rfl rfl (yl_move hF rfl rfl) ?_
        clear hF; intro a hF
        refine seq_yl hF (wn_t hF rfl rfl rfl rfl) rfl rfl (yl_move hF rfl rfl) ?_
        clear hF; intro a hF
        refine seq_yl hF (wn_t hF rfl rfl rfl rfl) rfl rfl (yl_move hF rfl rfl) ?_
        clear hF; intro a hF
        refine fr_split hF (fun hc324 hF => ?_) (fun hc324 hF => ?_)
        · first | (replace hc324 := of_decide_eq_true hc324) | (replace hc324 := of_decide_eq_false (bnot_t hc324)) | (subst hc324) | (replace hc324 := bnot_t hc324; subst hc324) | (replace hc324 := bnot_t hc324) | skip
          refine seq_yl hF (wn_t hF rfl rfl rfl rfl) rfl rfl (yl_move hF rfl rfl) ?_
          clear hF; intro a hF
          refine seq_yl hF (wn_t hF rfl rfl rfl rfl) rfl rfl (yl_move hF rfl rfl) ?_
          clear hF; intro a hF
          refine seq_yl hF (wn_t hF rfl rfl rfl rfl) rfl rfl (yl_bin hF rfl rfl rfl rfl (fun _ => run_leq)) ?_
          clear hF; intro a hF
          replace hF := fr_set (b' := false) hF (by rw [decide_eq_false_iff_not]; intro hke; obtain ⟨j, d, x, h1, h2, h3⟩ := hlo rfl; have := divF_low (L := G308) (n := ((rnd (n) (100 : Int)))) (by assumption) (by omega) (by omega) h1 h2; omega)
          refine seq_yl hF (wn_t hF rfl rfl rfl rfl) rfl rfl (yl_pick (u := _) (v := undef) hF rfl rfl (fun _ => rfl) (fun h => by cases h)) ?_
          clear hF; intro a hF
          refine seq_yl hF (wn_none rfl) rfl rfl (yl_pick (u := _) (v := undef) hF rfl rfl (fun h => by cases h) (fun _ => rfl)) ?_
          clear hF; intro a hF
          refine wpList_nil ?_
          refine then_n ?_
          refine c_cond_f hF rfl ?_
          refine wp_skip ?_
          refine then_n ?_
          refine c_seq ?_
          refine c_seq ?_
          refine c_region ?_
          refine seq_yl hF (wn_none rfl) rfl rfl (yl_assign hF rfl rfl) ?_
          clear hF; intro a hF
          refine wpList_nil ?_
          refine then_n ?_
          refine wp_block ?_
          refine c_loop (fun m a w => ∃ (p : Nat), m = G308.length - p ∧ (p ≤ G308.length) ∧ Fr 157 a [(6, .slice Av307 (G308).length cv307), (7, .int .i64 ((rnd (n) (100 : Int)))), (8, .slice Av314 ((divF G308 ((rnd (n) (100 : Int))))).length cv314), (11, .int .i64 (e)), (14, .int .i64 ((p : Nat) : Int))] ∧ Sat w0 w (.row 36 3 (.slice Av307 (G308).length cv307) (G308).length (cells enc36 (G308)) :: .row 3 1 (.slice Av314 ((divF G308 ((rnd (n) (100 : Int))))).length cv314) ((divF G308 ((rnd (n) (100 : Int))))).length (cells encI ((divF G308 ((rnd (n) (100 : Int)))))) :: [])) (G308.length - 0) ?_ ?_
          · exact ⟨0, rfl, Nat.zero_le _, hF.to [6, 7, 8, 11, 14] rfl, (hS.sub [0, 1] (by decide) (by first | rfl | simp) (by simp))⟩
          · clear hF hS; try clear hSS
            clear a w; rintro m a w ⟨p, rfl, hinv, hF, hS⟩
            refine c_seq ?_
            refine c_seq ?_
            refine c_region ?_
            refine seq_yl hF (wn_none rfl) rfl rfl (yl_move hF rfl rfl) ?_
            clear hF; intro a hF
            refine seq_yl hF (wn_none rfl) rfl rfl (yl_move hF rfl rfl) ?_
            clear hF; intro a hF
            refine seq_yl hF (wn_none rfl) rfl rfl (yl_len hF rfl rfl (fun _ => run_lenRd sl26 (hS.rdRow 0 rfl))) ?_
            clear hF; intro a hF
            refine seq_yl hF (wn_none rfl) rfl rfl (yl_bin hF rfl rfl rfl rfl (fun _ => run_lss)) ?_
            clear hF; intro a hF
            refine seq_yl hF (wn_none rfl) rfl rfl (yl_move hF rfl rfl) ?_
            clear hF; intro a hF
            refine fr_split hF (fun hc325 hF => ?_) (fun hc325 hF => ?_)
            · first | (replace hc325 := of_decide_eq_true hc325) | (replace hc325 := of_decide_eq_false (bnot_t hc325)) | (subst hc325) | (replace hc325 := bnot_t hc325; subst hc325) | (replace hc325 := bnot_t hc325) | skip
              refine seq_yl hF (wn_t hF rfl rfl rfl rfl) rfl rfl (yl_move hF rfl rfl) ?_
              clear hF; intro a hF
              refine seq_yl hF (wn_t hF rfl rfl rfl rfl) rfl rfl (yl_move hF rfl rfl) ?_
              clear hF; intro a hF
              refine seq_yl hF (wn_t hF rfl rfl rfl rfl) rfl rfl (yl_bin hF rfl rfl rfl rfl (fun _ => run_leq)) ?_
              clear hF; intro a hF
              refine seq_yl hF (wn_none rfl) rfl rfl (yl_pick (u := _) (v := undef) hF rfl rfl (fun _ => rfl) (fun h => by cases h)) ?_
              clear hF; intro a hF
              refine wpList_nil ?_
              refine then_n ?_
              refine c_cond hF rfl (fun hc326 => ?_) (fun hc326 => ?_)
              · first | (replace hc326 := of_decide_eq_true hc326) | (replace hc326 := of_decide_eq_false (bnot_t hc326)) | (subst hc326) | (replace hc326 := bnot_t hc326; subst hc326) | (replace hc326 := bnot_t hc326) | skip
                refine wp_skip ?_
                refine then_n ?_
                refine c_seq ?_
                refine wp_block ?_
                refine c_seq ?_
                refine c_region ?_
                refine seq_yl hF (wn_none rfl) rfl rfl (yl_assign hF rfl rfl) ?_
                clear hF; intro a hF
                refine wpList_nil ?_
                refine then_n ?_
                refine wp_block ?_
                refine c_loop (fun m a w => ∃ (q : Nat), m = G308.length - q ∧ (q ≤ G308.length) ∧ Fr 157 a [(6, .slice Av307 (G308).length cv307), (7, .int .i64 ((rnd (n) (100 : Int)))), (8, .slice Av314 ((divF G308 ((rnd (n) (100 : Int))))).length cv314), (11, .int .i64 (e)), (14, .int .i64 ((p : Nat) : Int)), (15, .int .i64 ((q : Nat) : Int))] ∧ Sat w0 w (.row 36 3 (.slice Av307 (G308).length cv307) (G308).length (cells enc36 (G308)) :: .row 3 1 (.slice Av314 ((divF G308 ((rnd (n) (100 : Int))))).length cv314) ((divF G308 ((rnd (n) (100 : Int))))).length (cells encI ((divF G308 ((rnd (n) (100 : Int)))))) :: [])) (G308.length - 0) ?_ ?_
                · exact ⟨0, rfl, Nat.zero_le _, hF.to [6, 7, 8, 11, 14, 15] rfl, (hS.sub [0, 1] (by decide) (by first | rfl | simp) (by simp))⟩
                · clear hF hS; try clear hSS
                  clear a w; rintro m a w ⟨q, rfl, hinv, hF, hS⟩
                  refine c_seq ?_
                  refine c_seq ?_
                  refine c_region ?_
                  refine seq_yl hF (wn_none rfl) rfl rfl (yl_move hF rfl rfl) ?_
                  clear hF; intro a hF
                  refine seq_yl hF (wn_none rfl) rfl rfl (yl_move hF rfl rfl) ?_
                  clear hF; intro a hF
                  refine seq_yl hF (wn_none rfl) rfl rfl (yl_len hF rfl rfl (fun _ => run_lenRd sl26 (hS.rdRow 0 rfl))) ?_
                  clear hF; intro a hF
                  refine seq_yl hF (wn_none rfl) rfl rfl (yl_bin hF rfl rfl rfl rfl (fun _ => run_lss)) ?_
                  clear hF; intro a hF
                  refine wpList_nil ?_
                  refine then_n ?_
                  refine c_cond hF rfl (fun hc327 => ?_) (fun hc327 => ?_)
                  · first | (replace hc327 := of_decide_eq_true hc327) | (replace hc327 := of_decide_eq_false (bnot_t hc327)) | (subst hc327) | (replace hc327 := bnot_t hc327; subst hc327) | (replace hc327 := bnot_t hc327) | skip
                    refine wp_skip ?_
                    refine then_n ?_
                    refine c_seq ?_
                    refine wp_block ?_
                    refine c_seq ?_
                    refine ha_startS hS [1, 0] 29 (by kernel_rfl) ?_; clear hS; intro w hS
                    have hSS := hS.sub [1, 0] (by decide) rfl (by simp)
                    refine ha_yl 0 hF rfl rfl rfl (by kernel_rfl) (by kernel_rfl) (by kernel_rfl) (by decide) (fun _ _ _ h => h) (wn_none rfl) (.inr hSS) (yl_move hF rfl rfl) ?_
                    clear hF; intro a hF
                    refine ha_yl 1 hF rfl rfl rfl (by kernel_rfl) (by kernel_rfl) (by kernel_rfl) (by decide) (fun _ _ _ h => h) (wn_none rfl) (.inr hSS) (yl_move hF rfl rfl) ?_
                    clear hF; intro a hF
                    have hlt_hx328 : p < ((divF G308 ((rnd (n) (100 : Int))))).length := by first | omega | (simp; done) | (simp; omega)
                    obtain ⟨ad329, rfl⟩ := rd_some (hS.rdRow 1 rfl) hlt_hx328
                    obtain ⟨x328, hx328⟩ := get_some hlt_hx328
                    refine ha_yl 2 hF rfl rfl rfl (by kernel_rfl) (by kernel_rfl) (by kernel_rfl) (by decide) (fun _ _ _ h => h) (wn_none rfl) (.inr hSS) (yl_indexAddr hF rfl rfl rfl (fun _ => run_idx' sl22 sz3 (hS.rdRow 1 rfl) hlt_hx328)) ?_
                    clear hF; intro a hF
                    refine ha_ld 3 hF rfl rfl rfl (by kernel_rfl) (by kernel_rfl) (by kernel_rfl) (by decide) (by kernel_rfl) (by kernel_rfl) (fun _ _ _ h => h) (wn_none rfl) hSS (yl_loadAt hF rfl rfl ag3 (fun _ h => rd_cell0 (enc := encI) (Sat.rdRow h 0 rfl) encI_len hx328 rfl rfl)) ?_
                    clear hF; intro a hF
                    refine ha_yl 4 hF rfl rfl rfl (by kernel_rfl) (by kernel_rfl) (by kernel_rfl) (by decide) (fun _ _ _ h => h) (wn_none rfl) (.inr hSS) (yl_bin hF rfl rfl rfl rfl (fun _ => run_gtr)) ?_
                    clear hF; intro a hF
                    refine ha_yl 5 hF rfl rfl rfl (by kernel_rfl) (by kernel_rfl) (by kernel_rfl) (by decide) (fun _ _ _ h => h) (wn_none rfl) (.inr hSS) (yl_move hF rfl rfl) ?_
                    clear hF; intro a hF
                    refine fr_split hF (fun hc330 hF => ?_) (fun hc330 hF => ?_)
                    · first | (replace hc330 := of_decide_eq_true hc330) | (replace hc330 := of_decide_eq_false (bnot_t hc330)) | (subst hc330) | (replace hc330 := bnot_t hc330; subst hc330) | (replace hc330 := bnot_t hc330) | skip
                      refine ha_yl 6 hF rfl rfl rfl (by kernel_rfl) (by kernel_rfl) (by kernel_rfl) (by decide) (fun _ _ _ h => h) (wn_t hF rfl rfl rfl rfl) (.inr hSS) (yl_move hF rfl rfl) ?_
                      clear hF; intro a hF
                      refine ha_yl 7 hF rfl rfl rfl (by kernel_rfl) (by kernel_rfl) (by kernel_rfl) (by decide) (fun _ _ _ h => h) (wn_t hF rfl rfl rfl rfl) (.inr hSS) (yl_move hF rfl rfl) ?_
                      clear hF; intro a hF
                      have hlt_hx331 : q < (G308).length := by first | omega | (simp; done) | (simp; omega)
                      obtain ⟨ad332, rfl⟩ := rd_some (hS.rdRow 0 rfl) hlt_hx331
                      obtain ⟨x331, hx331⟩ := get_some hlt_hx331
                      have hb_x331 := hmem x331 (List.mem_of_getElem? hx331)
                      refine ha_yl 8 hF rfl rfl rfl (by kernel_rfl) (by kernel_rfl) (by kernel_rfl) (by decide) (fun _ _ _ h => h) (wn_t hF rfl rfl rfl rfl) (.inr hSS) (yl_indexAddr hF rfl rfl rfl (fun _ => run_idx' sl26 sz36 (hS.rdRow 0 rfl) hlt_hx331)) ?_
                      clear hF; intro a hF
                      refine ha_yl 11 hF rfl rfl rfl (by kernel_rfl) (by kernel_rfl) (by kernel_rfl) (by decide) (fun _ _ _ h => h) (wn_t hF rfl rfl rfl rfl) (.inr hSS) (yl_move hF rfl rfl) ?_
                      clear hF; intro a hF
                      refine ha_yl 12 hF rfl rfl rfl (by kernel_rfl) (by kernel_rfl) (by kernel_rfl) (by decide) (fun _ _ _ h => h) (wn_t hF rfl rfl rfl rfl) (.inr hSS) (yl_move hF rfl rfl) ?_
                      clear hF; intro a hF
                      have hlt_hx333 : q < ((divF G308 ((rnd (n) (100 : Int))))).length := by first | omega | (simp; done) | (simp; omega)
                      obtain ⟨x333, hx333⟩ := get_some hlt_hx333
                      refine ha_yl 13 hF rfl rfl rfl (by kernel_rfl) (by kernel_rfl) (by kernel_rfl) (by decide) (fun _ _ _ h => h) (wn_t hF rfl rfl rfl rfl) (.inr hSS) (yl_indexAddr hF rfl rfl rfl (fun _ => run_idx' sl22 sz3 (hS.rdRow 1 rfl) hlt_hx333)) ?_
                      clear hF; intro a hF
                      refine ha_yl 16 hF rfl rfl rfl (by kernel_rfl) (by kernel_rfl) (by kernel_rfl) (by decide) (fun _ _ _ h => h) (wn_t hF rfl rfl rfl rfl) (.inr hSS) (yl_move hF rfl rfl) ?_
                      clear hF; intro a hF
                      refine ha_yl 17 hF rfl rfl rfl (by kernel_rfl) (by kernel_rfl) (by kernel_rfl) (by decide) (fun _ _ _ h => h) (wn_t hF rfl rfl rfl rfl) (.inr hSS) (yl_move hF rfl rfl) ?_
                      clear hF; intro a hF
                      have hlt_hx334 : p < (G308).length := by first | omega | (simp; done) | (simp; omega)
                      obtain ⟨x334, hx334⟩ := get_some hlt_hx334
                      have hb_x334 := hmem x334 (List.mem_of_getElem? hx334)
                      refine ha_yl 18 hF rfl rfl rfl (by kernel_rfl) (by kernel_rfl) (by kernel_rfl) (by decide) (fun _ _ _ h => h) (wn_t hF rfl rfl rfl rfl) (.inr hSS) (yl_indexAddr hF rfl rfl rfl (fun _ => run_idx' sl26 sz36 (hS.rdRow 0 rfl) hlt_hx334)) ?_
                      clear hF; intro a hF
                      refine ha_yl 21 hF rfl rfl rfl (by kernel_rfl) (by kernel_rfl) (by kernel_rfl) (by decide) (fun _ _ _ h => h) (wn_t hF rfl rfl rfl rfl) (.inr hSS) (yl_move hF rfl rfl) ?_
                      clear hF; intro a hF
                      refine ha_yl 22 hF rfl rfl rfl (by kernel_rfl) (by kernel_rfl) (by kernel_rfl) (by decide) (fun _ _ _ h => h) (wn_t hF rfl rfl rfl rfl) (.inr hSS) (yl_move hF rfl rfl) ?_
                      clear hF; intro a hF
                      refine ha_yl 23 hF rfl rfl rfl (by kernel_rfl) (by kernel_rfl) (by kernel_rfl) (by decide) (fun _ _ _ h => h) (wn_t hF rfl rfl rfl rfl) (.inr hSS) (yl_indexAddr hF rfl rfl rfl (fun _ => run_idx' sl22 sz3 (hS.rdRow 1 rfl) hlt_hx328)) ?_
                      clear hF; intro a hF
                      refine ha_ld 9 hF rfl rfl rfl (by kernel_rfl) (by kernel_rfl) (by kernel_rfl) (by decide) (by kernel_rfl) (by kernel_rfl) (fun _ _ _ h => h) (wn_t hF rfl rfl rfl rfl) hSS (yl_loadEl (rs := [.int .i64 (x331.f0), .int .i64 (x331.f1), .int .i64 (x331.f2)]) hF rfl rfl ag36 sz36 rfl (fun _ h => rd_cells (enc := enc36) (Sat.rdRow h 1 rfl) enc36_len hx331)) ?_
                      clear hF; intro a hF
                      refine ha_ld 14 hF rfl rfl rfl (by kernel_rfl) (by kernel_rfl) (by kernel_rfl) (by decide) (by kernel_rfl) (by kernel_rfl) (fun _ _ _ h => h) (wn_t hF rfl rfl rfl rfl) hSS (yl_loadAt hF rfl rfl ag3 (fun _ h => rd_cell0 (enc := encI) (Sat.rdRow h 0 rfl) encI_len hx333 rfl rfl)) ?_
                      clear hF; intro a hF
                      refine ha_ld 19 hF rfl rfl rfl (by kernel_rfl) (by kernel_rfl) (by kernel_rfl) (by decide) (by kernel_rfl) (by kernel_rfl) (fun _ _ _ h => h) (wn_t hF rfl rfl rfl rfl) hSS (yl_loadEl (rs := [.int .i64 (x334.f0), .int .i64 (x334.f1), .int .i64 (x334.f2)]) hF rfl rfl ag36 sz36 rfl (fun _ h => rd_cells (enc := enc36) (Sat.rdRow h 1 rfl) enc36_len hx334)) ?_
                      clear hF; intro a hF
                      refine ha_ld 24 hF rfl rfl rfl (by kernel_rfl) (by kernel_rfl) (by kernel_rfl) (by decide) (by kernel_rfl) (by kernel_rfl) (fun _ _ _ h => h) (wn_t hF rfl rfl rfl rfl) hSS (yl_loadAt hF rfl rfl ag3 (fun _ h => rd_cell0 (enc := encI) (Sat.rdRow h 0 rfl) encI_len hx328 rfl rfl)) ?_
                      clear hF; intro a hF
                      have hh335 := exF_in hb_x331
                      refine ha_one 10 (by kernel_rfl) rfl (wn_t hF rfl rfl rfl rfl) (wp_call (vs := [_]) hF rfl rfl rfl rfl cf17 (excess_any x331 _ (by have h9 := hb_x331; unfold okG at h9; exact ⟨by omega, by omega⟩)) ?_)
                      clear hF; rintro _ w ⟨rfl, hS1⟩ a hF
                      replace hS := hS.callB hS1 rfl; clear hS1
                      replace hSS := hS.sub [1, 0] (by decide) rfl (by simp)
                      refine ⟨.inr hSS, ?_⟩
                      have hdi := divF_in (L := G308) (n := ((rnd (n) (100 : Int)))) (by assumption) (by omega) hx333
                      refine ha_yl 15 hF rfl rfl rfl (by kernel_rfl) (by kernel_rfl) (by kernel_rfl) (by decide) (fun _ _ _ h => h) (wn_t hF rfl rfl rfl rfl) (.inr hSS) (yl_bin hF rfl rfl rfl rfl (fun _ => run_sub (by refine ⟨?_, ?_⟩ <;> omega))) ?_
                      clear hF; intro a hF
                      have hh336 := exF_in hb_x334
                      refine ha_one 20 (by kernel_rfl) rfl (wn_t hF rfl rfl rfl rfl) (wp_call (vs := [_]) hF rfl rfl rfl rfl cf17 (excess_any x334 _ (by have h9 := hb_x334; unfold okG at h9; exact ⟨by omega, by omega⟩)) ?_)
                      clear hF; rintro _ w ⟨rfl, hS1⟩ a hF
                      replace hS := hS.callB hS1 rfl; clear hS1
                      replace hSS := hS.sub [1, 0] (by decide) rfl (by simp)
                      refine ⟨.inr hSS, ?_⟩
                      have hdi := divF_in (L := G308) (n := ((rnd (n) (100 : Int)))) (by assumption) (by omega) hx328
                      refine ha_yl 25 hF rfl rfl rfl (by kernel_rfl) (by kernel_rfl) (by kernel_rfl) (by decide) (fun _ _ _ h => h) (wn_t hF rfl rfl rfl rfl) (.inr hSS) (yl_bin hF rfl rfl rfl rfl (fun _ => run_sub (by refine ⟨?_, ?_⟩ <;> omega))) ?_
                      clear hF; intro a hF
                      refine ha_yl 26 hF rfl rfl rfl (by kernel_rfl) (by kernel_rfl) (by kernel_rfl) (by decide) (fun _ _ _ h => h) (wn_t hF rfl rfl rfl rfl) (.inr hSS) (yl_bin hF rfl rfl rfl rfl (fun _ => run_add (by refine ⟨?_, ?_⟩ <;> omega))) ?_
                      clear hF; intro a hF
                      refine ha_yl 27 hF rfl rfl rfl (by kernel_rfl) (by kernel_rfl) (by kernel_rfl) (by decide) (fun _ _ _ h => h) (wn_t hF rfl rfl rfl rfl) (.inr hSS) (yl_bin hF rfl rfl rfl rfl (fun _ => run_gtr)) ?_
                      clear hF; intro a hF
                      replace hF := fr_set (b' := false) hF (by rw [decide_eq_false_iff_not]; have hff := divF_fair (L := G308) (n := ((rnd (n) (100 : Int)))) (by assumption) (by omega) (by omega) hx328 hx333 hx334 hx331 (by omega); omega)
                      refine ha_yl 28 hF rfl rfl rfl (by kernel_rfl) (by kernel_rfl) (by kernel_rfl) (by decide) (fun _ _ _ h => h) (wn_none rfl) (.inr hSS) (yl_pick (u := _) (v := undef) hF rfl rfl (fun _ => rfl) (fun h => by cases h)) ?_
                      clear hF; intro a hF
                      refine ha_done (by kernel_rfl) ?_ _
                      refine then_n ?_
                      refine c_cond_f hF rfl ?_
                      refine wp_skip ?_
                      refine inb_n ?_
                      refine then_n ?_
                      refine c_region ?_
                      refine seq_yl hF (wn_none rfl) rfl rfl (yl_move hF rfl rfl) ?_
                      clear hF; intro a hF
                      refine seq_yl hF (wn_none rfl) rfl rfl (yl_bin hF rfl rfl rfl rfl (fun _ => run_inc (by omega))) ?_
                      clear hF; intro a hF
                      refine seq_yl hF (wn_none rfl) rfl rfl (yl_assign hF rfl rfl) ?_
                      clear hF; intro a hF
                      refine wpList_nil ?_
                      refine then_n ?_
                      exact ⟨_, (by omega), q + 1, rfl, (by omega), hF.to [6, 7, 8, 11, 14, 15] rfl, (hS.sub [0, 1] (by decide) (by first | rfl | simp) (by simp))⟩
                    · first | (replace hc330 := of_decide_eq_false hc330) | (replace hc330 := of_decide_eq_true (bnot_f hc330)) | (subst hc330) | (replace hc330 := bnot_f hc330; subst hc330) | (replace hc330 := bnot_f hc330) | skip
                      refine ha_skip 6 hF rfl rfl rfl (by kernel_rfl) (by kernel_rfl) (by kernel_rfl) (by decide) (fun _ _ _ h => h) (wn_f hF rfl rfl rfl rfl) (.inr hSS) ?_
                      clear hF; intro a hF
                      refine ha_skip 7 hF rfl rfl rfl (by kernel_rfl) (by kernel_rfl) (by kernel_rfl) (by decide) (fun _ _ _ h => h) (wn_f hF rfl rfl rfl rfl) (.inr hSS) ?_
                      clear hF; intro a hF
                      refine ha_skip 8 hF rfl rfl rfl (by kernel_rfl) (by kernel_rfl) (by kernel_rfl) (by decide) (fun _ _ _ h => h) (wn_f hF rfl rfl rfl rfl) (.inr hSS) ?_
                      clear hF; intro a hF
                      refine ha_skip 9 hF rfl rfl rfl (by kernel_rfl) (by kernel_rfl) (by kernel_rfl) (by decide) (fun _ _ _ h => h) (wn_f hF rfl rfl rfl rfl) (.inr hSS) ?_
                      clear hF; intro a hF
                      refine ha_skip 10 hF rfl rfl rfl (by kernel_rfl) (by kernel_rfl) (by kernel_rfl) (by decide) (fun _ _ _ h => h) (wn_f hF rfl rfl rfl rfl) (.inr hSS) ?_
                      clear hF; intro a hF
                      refine ha_skip 11 hF rfl rfl rfl (by kernel_rfl) (by kernel_rfl) (by kernel_rfl) (by decide) (fun _ _ _ h => h) (wn_f hF rfl rfl rfl rfl) (.inr hSS) ?_
                      clear hF; intro a hF
                      refine ha_skip 12 hF rfl rfl rfl (by kernel_rfl) (by kernel_rfl) (by kernel_rfl) (by decide) (fun _ _ _ h => h) (wn_f hF rfl rfl rfl rfl) (.inr hSS) ?_
                      clear hF; intro a hF
                      refine ha_skip 13 hF rfl rfl rfl (by kernel_rfl) (by kernel_rfl) (by kernel_rfl) (by decide) (fun _ _ _ h => h) (wn_f hF rfl rfl rfl rfl) (.inr hSS) ?_
                      clear hF; intro a hF
                      refine ha_skip 14 hF rfl rfl rfl (by kernel_rfl) (by kernel_rfl) (by kernel_rfl) (by decide) (fun _ _ _ h => h) (wn_f hF rfl rfl rfl rfl) (.inr hSS) ?_
                      clear hF; intro a hF
                      refine ha_skip 15 hF rfl rfl rfl (by kernel_rfl) (by kernel_rfl) (by kernel_rfl) (by decide) (fun _ _ _ h => h) (wn_f hF rfl rfl rfl rfl) (.inr hSS) ?_
                      clear hF; intro a hF
                      refine ha_skip 16 hF rfl rfl rfl (by kernel_rfl) (by kernel_rfl) (by kernel_rfl) (by decide) (fun _ _ _ h => h) (wn_f hF rfl rfl rfl rfl) (.inr hSS) ?_
                      clear hF; intro a hF
                      refine ha_skip 17 hF rfl rfl rfl (by kernel_rfl) (by kernel_rfl) (by kernel_rfl) (by decide) (fun _ _ _ h => h) (wn_f hF rfl rfl rfl rfl) (.inr hSS) ?_
                      clear hF; intro a hF
                      refine ha_skip 18 hF rfl rfl rfl (by kernel_rfl) (by kernel_rfl) (by kernel_rfl) (by decide) (fun _ _ _ h => h) (wn_f hF rfl rfl rfl rfl) (.inr hSS) ?_
                      clear hF; intro a hF
                      refine ha_skip 19 hF rfl rfl rfl (by kernel_rfl) (by kernel_rfl) (by kernel_rfl) (by decide) (fun _ _ _ h => h) (wn_f hF rfl rfl rfl rfl) (.inr hSS) ?_
                      clear hF; intro a hF
                      refine ha_skip 20 hF rfl rfl rfl (by kernel_rfl) (by kernel_rfl) (by kernel_rfl) (by decide) (fun _ _ _ h => h) (wn_f hF rfl rfl rfl rfl) (.inr hSS) ?_
                      clear hF; intro a hF
                      refine ha_skip 21 hF rfl rfl rfl (by kernel_rfl) (by kernel_rfl) (by kernel_rfl) (by decide) (fun _ _ _ h => h) (wn_f hF rfl rfl rfl rfl) (.inr hSS) ?_
                      clear hF; intro a hF
                      refine ha_skip 22 hF rfl rfl rfl (by kernel_rfl) (by kernel_rfl) (by kernel_rfl) (by decide) (fun _ _ _ h => h) (wn_f hF rfl rfl rfl rfl) (.inr hSS) ?_
                      clear hF; intro a hF
                      refine ha_skip 23 hF rfl rfl rfl (by kernel_rfl) (by kernel_rfl) (by kernel_rfl) (by decide) (fun _ _ _ h => h) (wn_f hF rfl rfl rfl rfl) (.inr hSS) ?_
                      clear hF; intro a hF
                      refine ha_skip 24 hF rfl rfl rfl (by kernel_rfl) (by kernel_rfl) (by kernel_rfl) (by decide) (fun _ _ _ h => h) (wn_f hF rfl rfl rfl rfl) (.inr hSS) ?_
                      clear hF; intro a hF
                      refine ha_skip 25 hF rfl rfl rfl (by kernel_rfl) (by kernel_rfl) (by kernel_rfl) (by decide) (fun _ _ _ h => h) (wn_f hF rfl rfl rfl rfl) (.inr hSS) ?_
                      clear hF; intro a hF
                      refine ha_skip 26 hF rfl rfl rfl (by kernel_rfl) (by kernel_rfl) (by kernel_rfl) (by decide) (fun _ _ _ h => h) (wn_f hF rfl rfl rfl rfl) (.inr hSS) ?_
                      clear hF; intro a hF
                      refine ha_skip 27 hF rfl rfl rfl (by kernel_rfl) (by kernel_rfl) (by kernel_rfl) (by decide) (fun _ _ _ h => h) (wn_f hF rfl rfl rfl rfl) (.inr hSS) ?_
                      clear hF; intro a hF
                      refine ha_yl 28 hF rfl rfl rfl (by kernel_rfl) (by kernel_rfl) (by kernel_rfl) (by decide) (fun _ _ _ h => h) (wn_none rfl) (.inr hSS) (yl_pick (u := _) (v := undef) hF rfl rfl (fun h => by cases h) (fun _ => rfl)) ?_
                      clear hF; intro a hF
                      refine ha_done (by kernel_rfl) ?_ _
                      refine then_n ?_
                      refine c_cond_f hF rfl ?_
                      refine wp_skip ?_
                      refine inb_n ?_
                      refine then_n ?_
                      refine c_region ?_
                      refine seq_yl hF (wn_none rfl) rfl rfl (yl_move hF rfl rfl) ?_
                      clear hF; intro a hF
                      refine seq_yl hF (wn_none rfl) rfl rfl (yl_bin hF rfl rfl rfl rfl (fun _ => run_inc (by omega))) ?_
                      clear hF; intro a hF
                      refine seq_yl hF (wn_none rfl) rfl rfl (yl_assign hF rfl rfl) ?_
                      clear hF; intro a hF
                      refine wpList_nil ?_
                      refine then_n ?_
                      exact ⟨_, (by omega), q + 1, rfl, (by omega), hF.to [6, 7, 8, 11, 14, 15] rfl, (hS.sub [0, 1] (by decide) (by first | rfl | simp) (by simp))⟩
                  · first | (replace hc327 := of_decide_eq_false hc327) | (replace hc327 := of_decide_eq_true (bnot_f hc327)) | (subst hc327) | (replace hc327 := bnot_f hc327; subst hc327) | (replace hc327 := bnot_f hc327) | skip
                    refine wp_exit ?_
                    refine then_x ?_
                    refine then_x ?_
                    refine inb_x ?_
                    refine inb_n ?_
                    refine then_n ?_
                    refine c_region ?_
                    refine seq_yl hF (wn_none rfl) rfl rfl (yl_move hF rfl rfl) ?_
                    clear hF; intro a hF
                    refine seq_yl hF (wn_none rfl) rfl rfl (yl_bin hF rfl rfl rfl rfl (fun _ => run_inc (by omega))) ?_
                    clear hF; intro a hF
                    refine seq_yl hF (wn_none rfl) rfl rfl (yl_assign hF rfl rfl) ?_
                    clear hF; intro a hF
                    refine wpList_nil ?_
                    refine then_n ?_
                    exact ⟨_, (by omega), p + 1, rfl, (by omega), hF.to [6, 7, 8, 11, 14] rfl, (hS.sub [0, 1] (by decide) (by first | rfl | simp) (by simp))⟩
              · first | (replace hc326 := of_decide_eq_false hc326) | (replace hc326 := of_decide_eq_true (bnot_f hc326)) | (subst hc326) | (replace hc326 := bnot_f hc326; subst hc326) | (replace hc326 := bnot_f hc326) | skip
                refine wp_exit ?_
                refine then_x ?_
                refine then_x ?_
                refine inb_x ?_
                refine then_n ?_
                refine c_seq ?_
                refine c_region ?_
                refine seq_wp (wn_none rfl) (wp_call (vs := []) hF rfl rfl rfl rfl cf24 (awake_any _) ?_)
                clear hF; rintro _ w ⟨rfl, hS1⟩ a hF
                replace hS := hS.callB hS1 rfl; clear hS1
                refine seq_yl hF (wn_none rfl) rfl rfl (yl_assign hF rfl rfl) ?_
                clear hF; intro a hF
                refine wpList_nil ?_
                refine then_n ?_
                refine wp_ret ?_
                refine ret_t hF rfl rfl ?_
                exact ⟨_, rfl, rfl, (hS.sub [] (by decide) (by first | rfl | simp) (by simp))⟩
            · first | (replace hc325 := of_decide_eq_false hc325) | (replace hc325 := of_decide_eq_true (bnot_f hc325)) | (subst hc325) | (replace hc325 := bnot_f hc325; subst hc325) | (replace hc325 := bnot_f hc325) | skip
              refine seq_skip hF (wn_f hF rfl rfl rfl rfl) rfl rfl ?_
              clear hF; intro a hF
              refine seq_skip hF (wn_f hF rfl rfl rfl rfl) rfl rfl ?_
              clear hF; intro a hF
              refine seq_skip hF (wn_f hF rfl rfl rfl rfl) rfl rfl ?_
              clear hF; intro a hF
              refine seq_yl hF (wn_none rfl) rfl rfl (yl_pick (u := _) (v := undef) hF rfl rfl (fun h => by cases h) (fun _ => rfl)) ?_
              clear hF; intro a hF
              refine wpList_nil ?_
              refine then_n ?_
              refine c_cond_f hF rfl ?_
              refine wp_exit ?_
              refine then_x ?_
              refine then_x ?_
              refine inb_x ?_
              refine then_n ?_
              refine c_seq ?_
              refine c_region ?_
              refine seq_wp (wn_none rfl) (wp_call (vs := []) hF rfl rfl rfl rfl cf24 (awake_any _) ?_)
              clear hF; rintro _ w ⟨rfl, hS1⟩ a hF
              replace hS := hS.callB hS1 rfl; clear hS1
              refine seq_yl hF (wn_none rfl) rfl rfl (yl_assign hF rfl rfl) ?_
              clear hF; intro a hF
              refine wpList_nil ?_
              refine then_n ?_
              refine wp_ret ?_
              refine ret_t hF rfl rfl ?_
              exact ⟨_, rfl, rfl, (hS.sub [] (by decide) (by first | rfl | simp) (by simp))⟩
        · first | (replace hc324 := of_decide_eq_false hc324) | (replace hc324 := of_decide_eq_true (bnot_f hc324)) | (subst hc324) | (replace hc324 := bnot_f hc324; subst hc324) | (replace hc324 := bnot_f hc324) | skip
          refine seq_skip hF (wn_f hF rfl rfl rfl rfl) rfl rfl ?_
          clear hF; intro a hF
          refine seq_skip hF (wn_f hF rfl rfl rfl rfl) rfl rfl ?_
          clear hF; intro a hF
          refine seq_skip hF (wn_f hF rfl rfl rfl rfl) rfl rfl ?_
          clear hF; intro a hF
          refine seq_yl hF (wn_t hF rfl rfl rfl rfl) rfl rfl (yl_pick (u := _) (v := undef) hF rfl rfl (fun h => by cases h) (fun _ => rfl)) ?_
          clear hF; intro a hF
          refine seq_yl hF (wn_none rfl) rfl rfl (yl_pick (u := _) (v := undef) hF rfl rfl (fun h => by cases h) (fun _ => rfl)) ?_
          clear hF; intro a hF
          refine wpList_nil ?_
          refine then_n ?_
          refine c_cond_f hF rfl ?_
          refine wp_skip ?_
          refine then_n ?_
          refine c_seq ?_
          refine c_seq ?_
          refine c_region ?_
          refine seq_yl hF (wn_none rfl) rfl rfl (yl_assign hF rfl rfl) ?_
          clear hF; intro a hF
          refine wpList_nil ?_
          refine then_n ?_
          refine wp_block ?_
          refine c_loop (fun m a w => ∃ (p : Nat), m = G308.length - p ∧ (p ≤ G308.length) ∧ Fr 157 a [(6, .slice Av307 (G308).length cv307), (7, .int .i64 ((rnd (n) (100 : Int)))), (8, .slice Av314 ((divF G308 ((rnd (n) (100 : Int))))).length cv314), (11, .int .i64 (e)), (14, .int .i64 ((p : Nat) : Int))] ∧ Sat w0 w (.row 36 3 (.slice Av307 (G308).length cv307) (G308).length (cells enc36 (G308)) :: .row 3 1 (.slice Av314 ((divF G308 ((rnd (n) (100 : Int))))).length cv314) ((divF G308 ((rnd (n) (100 : Int))))).length (cells encI ((divF G308 ((rnd (n) (100 : Int)))))) :: [])) (G308.length - 0) ?_ ?_
          · exact ⟨0, rfl, Nat.zero_le _, hF.to [6, 7, 8, 11, 14] rfl, (hS.sub [0, 1] (by decide) (by first | rfl | simp) (by simp))⟩
          · clear hF hS; try clear hSS
            clear a w; rintro m a w ⟨p, rfl, hinv, hF, hS⟩
            refine c_seq ?_
            refine c_seq ?_
            refine c_region ?_
            refine seq_yl hF (wn_none rfl) rfl rfl (yl_move hF rfl rfl) ?_
            clear hF; intro a hF
            refine seq_yl hF (wn_none rfl) rfl rfl (yl_move hF rfl rfl) ?_
            clear hF; intro a hF
            refine seq_yl hF (wn_none rfl) rfl rfl (yl_len hF rfl rfl (fun _ => run_lenRd sl26 (hS.rdRow 0 rfl))) ?_
            clear hF; intro a hF
            refine seq_yl hF (wn_none rfl) rfl rfl (yl_bin hF rfl rfl rfl rfl (fun _ => run_lss)) ?_
            clear hF; intro a hF
            refine seq_yl hF (wn_none rfl) rfl rfl (yl_move hF rfl rfl) ?_
            clear hF; intro a hF
            refine fr_split hF (fun hc337 hF => ?_) (fun hc337 hF => ?_)
            · first | (replace hc337 := of_decide_eq_true hc337) | (replace hc337 := of_decide_eq_false (bnot_t hc337)) | (subst hc337) | (replace hc337 := bnot_t hc337; subst hc337) | (replace hc337 := bnot_t hc337) | skip
              refine seq_yl hF (wn_t hF rfl rfl rfl rfl) rfl rfl (yl_move hF rfl rfl) ?_
              clear hF; intro a hF
              refine seq_yl hF (wn_t hF rfl rfl rfl rfl) rfl rfl (yl_move hF rfl rfl) ?_
              clear hF; intro a hF
              refine seq_yl hF (wn_t hF rfl rfl rfl rfl) rfl rfl (yl_bin hF rfl rfl rfl rfl (fun _ => run_leq)) ?_
              clear hF; intro a hF
              refine seq_yl hF (wn_none rfl) rfl rfl (yl_pick (u := _) (v := undef) hF rfl rfl (fun _ => rfl) (fun h => by cases h)) ?_
              clear hF; intro a hF
              refine wpList_nil ?_
              refine then_n ?_
              refine c_cond hF rfl (fun hc338 => ?_) (fun hc338 => ?_)
              · first | (replace hc338 := of_decide_eq_true hc338) | (replace hc338 := of_decide_eq_false (bnot_t hc338)) | (subst hc338) | (replace hc338 := bnot_t hc338; subst hc338) | (replace hc338 := bnot_t hc338) | skip
                refine wp_skip ?_
                refine then_n ?_
                refine c_seq ?_
                refine wp_block ?_
                refine c_seq ?_
                refine c_region ?_
                refine seq_yl hF (wn_none rfl) rfl rfl (yl_assign hF rfl rfl) ?_
                clear hF; intro a hF
                refine wpList_nil ?_
                refine then_n ?_
                refine wp_block ?_
                refine c_loop (fun m a w => ∃ (q : Nat), m = G308.length - q ∧ (q ≤ G308.length) ∧ Fr 157 a [(6, .slice Av307 (G308).length cv307), (7, .int .i64 ((rnd (n) (100 : Int)))), (8, .slice Av314 ((divF G308 ((rnd (n) (100 : Int))))).length cv314), (11, .int .i64 (e)), (14, .int .i64 ((p : Nat) : Int)), (15, .int .i64 ((q : Nat) : Int))] ∧ Sat w0 w (.row 36 3 (.slice Av307 (G308).length cv307) (G308).length (cells enc36 (G308)) :: .row 3 1 (.slice Av314 ((divF G308 ((rnd (n) (100 : Int))))).length cv314) ((divF G308 ((rnd (n) (100 : Int))))).length (cells encI ((divF G308 ((rnd (n) (100 : Int)))))) :: [])) (G308.length - 0) ?_ ?_
                · exact ⟨0, rfl, Nat.zero_le _, hF.to [6, 7, 8, 11, 14, 15] rfl, (hS.sub [0, 1] (by decide) (by first | rfl | simp) (by simp))⟩
                · clear hF hS; try clear hSS
                  clear a w; rintro m a w ⟨q, rfl, hinv, hF, hS⟩
                  refine c_seq ?_
                  refine c_seq ?_
                  refine c_region ?_
                  refine seq_yl hF (wn_none rfl) rfl rfl (yl_move hF rfl rfl) ?_
                  clear hF; intro a hF
                  refine seq_yl hF (wn_none rfl) rfl rfl (yl_move hF rfl rfl) ?_
                  clear hF; intro a hF
                  refine seq_yl hF (wn_none rfl) rfl rfl (yl_len hF rfl rfl (fun _ => run_lenRd sl26 (hS.rdRow 0 rfl))) ?_
                  clear hF; intro a hF
                  refine seq_yl hF (wn_none rfl) rfl rfl (yl_bin hF rfl rfl rfl rfl (fun _ => run_lss)) ?_
                  clear hF; intro a hF
                  refine wpList_nil ?_
                  refine then_n ?_
                  refine c_cond hF rfl (fun hc339 => ?_) (fun hc339 => ?_)
                  · first | (replace hc339 := of_decide_eq_true hc339) | (replace hc339 := of_decide_eq_false (bnot_t hc339)) | (subst hc339) | (replace hc339 := bnot_t hc339; subst hc339) | (replace hc339 := bnot_t hc339) | skip
                    refine wp_skip ?_
                    refine then_n ?_
                    refine c_seq ?_
                    refine wp_block ?_
                    refine c_seq ?_
                    refine ha_startS hS [1, 0] 29 (by kernel_rfl) ?_; clear hS; intro w hS
                    have hSS := hS.sub [1, 0] (by decide) rfl (by simp)
                    refine ha_yl 0 hF rfl rfl rfl (by kernel_rfl) (by kernel_rfl) (by kernel_rfl) (by decide) (fun _ _ _ h => h) (wn_none rfl) (.inr hSS) (yl_move hF rfl rfl) ?_
                    clear hF; intro a hF
                    refine ha_yl 1 hF rfl rfl rfl (by kernel_rfl) (by kernel_rfl) (by kernel_rfl) (by decide) (fun _ _ _ h => h) (wn_none rfl) (.inr hSS) (yl_move hF rfl rfl) ?_
                    clear hF; intro a hF
                    have hlt_hx340 : p < ((divF G308 ((rnd (n) (100 : Int))))).length := by first | omega | (simp; done) | (simp; omega)
                    obtain ⟨ad341, rfl⟩ := rd_some (hS.rdRow 1 rfl) hlt_hx340
                    obtain ⟨x340, hx340⟩ := get_some hlt_hx340
                    refine ha_yl 2 hF rfl rfl rfl (by kernel_rfl) (by kernel_rfl) (by kernel_rfl) (by decide) (fun _ _ _ h => h) (wn_none rfl) (.inr hSS) (yl_indexAddr hF rfl rfl rfl (fun _ => run_idx' sl22 sz3 (hS.rdRow 1 rfl) hlt_hx340)) ?_
                    clear hF; intro a hF
                    refine ha_ld 3 hF rfl rfl rfl (by kernel_rfl) (by kernel_rfl) (by kernel_rfl) (by decide) (by kernel_rfl) (by kernel_rfl) (fun _ _ _ h => h) (wn_none rfl) hSS (yl_loadAt hF rfl rfl ag3 (fun _ h => rd_cell0 (enc := encI) (Sat.rdRow h 0 rfl) encI_len hx340 rfl rfl)) ?_
                    clear hF; intro a hF
                    refine ha_yl 4 hF rfl rfl rfl (by kernel_rfl) (by kernel_rfl) (by kernel_rfl) (by decide) (fun _ _ _ h => h) (wn_none rfl) (.inr hSS) (yl_bin hF rfl rfl rfl rfl (fun _ => run_gtr)) ?_
                    clear hF; intro a hF
                    refine ha_yl 5 hF rfl rfl rfl (by kernel_rfl) (by kernel_rfl) (by kernel_rfl) (by decide) (fun _ _ _ h => h) (wn_none rfl) (.inr hSS) (yl_move hF rfl rfl) ?_
                    clear hF; intro a hF
                    refine fr_split hF (fun hc342 hF => ?_) (fun hc342 hF => ?_)
                    · first | (replace hc342 := of_decide_eq_true hc342) | (replace hc342 := of_decide_eq_false (bnot_t hc342)) | (subst hc342) | (replace hc342 := bnot_t hc342; subst hc342) | (replace hc342 := bnot_t hc342) | skip
                      refine ha_yl 6 hF rfl rfl rfl (by kernel_rfl) (by kernel_rfl) (by kernel_rfl) (by decide) (fun _ _ _ h => h) (wn_t hF rfl rfl rfl rfl) (.inr hSS) (yl_move hF rfl rfl) ?_
                      clear hF; intro a hF
                      refine ha_yl 7 hF rfl rfl rfl (by kernel_rfl) (by kernel_rfl) (by kernel_rfl) (by decide) (fun _ _ _ h => h) (wn_t hF rfl rfl rfl rfl) (.inr hSS) (yl_move hF rfl rfl) ?_
                      clear hF; intro a hF
                      have hlt_hx343 : q < (G308).length := by first | omega | (simp; done) | (simp; omega)
                      obtain ⟨ad344, rfl⟩ := rd_some (hS.rdRow 0 rfl) hlt_hx343
                      obtain ⟨x343, hx343⟩ := get_some hlt_hx343
                      have hb_x343 := hmem x343 (List.mem_of_getElem? hx343)
                      refine ha_yl 8 hF rfl rfl rfl (by kernel_rfl) (by kernel_rfl) (by kernel_rfl) (by decide) (fun _ _ _ h => h) (wn_t hF rfl rfl rfl rfl) (.inr hSS) (yl_indexAddr hF rfl rfl rfl (fun _ => run_idx' sl26 sz36 (hS.rdRow 0 rfl) hlt_hx343)) ?_
                      clear hF; intro a hF
                      refine ha_yl 11 hF rfl rfl rfl (by kernel_rfl) (by kernel_rfl) (by kernel_rfl) (by decide) (fun _ _ _ h => h) (wn_t hF rfl rfl rfl rfl) (.inr hSS) (yl_move hF rfl rfl) ?_
                      clear hF; intro a hF
                      refine ha_yl 12 hF rfl rfl rfl (by kernel_rfl) (by kernel_rfl) (by kernel_rfl) (by decide) (fun _ _ _ h => h) (wn_t hF rfl rfl rfl rfl) (.inr hSS) (yl_move hF rfl rfl) ?_
                      clear hF; intro a hF
                      have hlt_hx345 : q < ((divF G308 ((rnd (n) (100 : Int))))).length := by first | omega | (simp; done) | (simp; omega)
                      obtain ⟨x345, hx345⟩ := get_some hlt_hx345
                      refine ha_yl 13 hF rfl rfl rfl (by kernel_rfl) (by kernel_rfl) (by kernel_rfl) (by decide) (fun _ _ _ h => h) (wn_t hF rfl rfl rfl rfl) (.inr hSS) (yl_indexAddr hF rfl rfl rfl (fun _ => run_idx' sl22 sz3 (hS.rdRow 1 rfl) hlt_hx345)) ?_
                      clear hF; intro a hF
                      refine ha_yl 16 hF rfl rfl rfl (by kernel_rfl) (by kernel_rfl) (by kernel_rfl) (by decide) (fun _ _ _ h => h) (wn_t hF rfl rfl rfl rfl) (.inr hSS) (yl_move hF rfl rfl) ?_
                      clear hF; intro a hF
                      refine ha_yl 17 hF rfl rfl rfl (by kernel_rfl) (by kernel_rfl) (by kernel_rfl) (by decide) (fun _ _ _ h => h) (wn_t hF rfl rfl rfl rfl) (.inr hSS) (yl_move hF rfl rfl) ?_
                      clear hF; intro a hF
                      have hlt_hx346 : p < (G308).length := by first | omega | (simp; done) | (simp; omega)
                      obtain ⟨x346, hx346⟩ := get_some hlt_hx346
                      have hb_x346 := hmem x346 (List.mem_of_getElem? hx346)
                      refine ha_yl 18 hF rfl rfl rfl (by kernel_rfl) (by kernel_rfl) (by kernel_rfl) (by decide) (fun _ _ _ h => h) (wn_t hF rfl rfl rfl rfl) (.inr hSS) (yl_indexAddr hF rfl rfl rfl (fun _ => run_idx' sl26 sz36 (hS.rdRow 0 rfl) hlt_hx346)) ?_
                      clear hF; intro a hF
                      refine ha_yl 21 hF rfl rfl rfl (by kernel_rfl) (by kernel_rfl) (by kernel_rfl) (by decide) (fun _ _ _ h => h) (wn_t hF rfl rfl rfl rfl) (.inr hSS) (yl_move hF rfl rfl) ?_
                      clear hF; intro a hF
                      refine ha_yl 22 hF rfl rfl rfl (by kernel_rfl) (by kernel_rfl) (by kernel_rfl) (by decide) (fun _ _ _ h => h) (wn_t hF rfl rfl rfl rfl) (.inr hSS) (yl_move hF rfl rfl) ?_
                      clear hF; intro a hF
                      refine ha_yl 23 hF rfl rfl rfl (by kernel_rfl) (by kernel_rfl) (by kernel_rfl) (by decide) (fun _ _ _ h => h) (wn_t hF rfl rfl rfl rfl) (.inr hSS) (yl_indexAddr hF rfl rfl rfl (fun _ => run_idx' sl22 sz3 (hS.rdRow 1 rfl) hlt_hx340)) ?_
                      clear hF; intro a hF
                      refine ha_ld 9 hF rfl rfl rfl (by kernel_rfl) (by kernel_rfl) (by kernel_rfl) (by decide) (by kernel_rfl) (by kernel_rfl) (fun _ _ _ h => h) (wn_t hF rfl rfl rfl rfl) hSS (yl_loadEl (rs := [.int .i64 (x343.f0), .int .i64 (x343.f1), .int .i64 (x343.f2)]) hF rfl rfl ag36 sz36 rfl (fun _ h => rd_cells (enc := enc36) (Sat.rdRow h 1 rfl) enc36_len hx343)) ?_
                      clear hF; intro a hF
                      refine ha_ld 14 hF rfl rfl rfl (by kernel_rfl) (by kernel_rfl) (by kernel_rfl) (by decide) (by kernel_rfl) (by kernel_rfl) (fun _ _ _ h => h) (wn_t hF rfl rfl rfl rfl) hSS (yl_loadAt hF rfl rfl ag3 (fun _ h => rd_cell0 (enc := encI) (Sat.rdRow h 0 rfl) encI_len hx345 rfl rfl)) ?_
                      clear hF; intro a hF
                      refine ha_ld 19 hF rfl rfl rfl (by kernel_rfl) (by kernel_rfl) (by kernel_rfl) (by decide) (by kernel_rfl) (by kernel_rfl) (fun _ _ _ h => h) (wn_t hF rfl rfl rfl rfl) hSS (yl_loadEl (rs := [.int .i64 (x346.f0), .int .i64 (x346.f1), .int .i64 (x346.f2)]) hF rfl rfl ag36 sz36 rfl (fun _ h => rd_cells (enc := enc36) (Sat.rdRow h 1 rfl) enc36_len hx346)) ?_
                      clear hF; intro a hF
                      refine ha_ld 24 hF rfl rfl rfl (by kernel_rfl) (by kernel_rfl) (by kernel_rfl) (by decide) (by kernel_rfl) (by kernel_rfl) (fun _ _ _ h => h) (wn_t hF rfl rfl rfl rfl) hSS (yl_loadAt hF rfl rfl ag3 (fun _ h => rd_cell0 (enc := encI) (Sat.rdRow h 0 rfl) encI_len hx340 rfl rfl)) ?_
                      clear hF; intro a hF
                      have hh347 := exF_in hb_x343
                      refine ha_one 10 (by kernel_rfl) rfl (wn_t hF rfl rfl rfl rfl) (wp_call (vs := [_]) hF rfl rfl rfl rfl cf17 (excess_any x343 _ (by have h9 := hb_x343; unfold okG at h9; exact ⟨by omega, by omega⟩)) ?_)
                      clear hF; rintro _ w ⟨rfl, hS1⟩ a hF
                      replace hS := hS.callB hS1 rfl; clear hS1
                      replace hSS := hS.sub [1, 0] (by decide) rfl (by simp)
                      refine ⟨.inr hSS, ?_⟩
                      have hdi := divF_in (L := G308) (n := ((rnd (n) (100 : Int)))) (by assumption) (by omega) hx345
                      refine ha_yl 15 hF rfl rfl rfl (by kernel_rfl) (by kernel_rfl) (by kernel_rfl) (by decide) (fun _ _ _ h => h) (wn_t hF rfl rfl rfl rfl) (.inr hSS) (yl_bin hF rfl rfl rfl rfl (fun _ => run_sub (by refine ⟨?_, ?_⟩ <;> omega))) ?_
                      clear hF; intro a hF
                      have hh348 := exF_in hb_x346
                      refine ha_one 20 (by kernel_rfl) rfl (wn_t hF rfl rfl rfl rfl) (wp_call (vs := [_]) hF rfl rfl rfl rfl cf17 (excess_any x346 _ (by have h9 := hb_x346; unfold okG at h9; exact ⟨by omega, by omega⟩)) ?_)
                      clear hF; rintro _ w ⟨rfl, hS1⟩ a hF
                      replace hS := hS.callB hS1 rfl; clear hS1
                      replace hSS := hS.sub [1, 0] (by decide) rfl (by simp)
                      refine ⟨.inr hSS, ?_⟩
                      have hdi := divF_in (L := G308) (n := ((rnd (n) (100 : Int)))) (by assumption) (by omega) hx340
                      refine ha_yl 25 hF rfl rfl rfl (by kernel_rfl) (by kernel_rfl) (by kernel_rfl) (by decide) (fun _ _ _ h => h) (wn_t hF rfl rfl rfl rfl) (.inr hSS) (yl_bin hF rfl rfl rfl rfl (fun _ => run_sub (by refine ⟨?_, ?_⟩ <;> omega))) ?_
                      clear hF; intro a hF
                      refine ha_yl 26 hF rfl rfl rfl (by kernel_rfl) (by kernel_rfl) (by kernel_rfl) (by decide) (fun _ _ _ h => h) (wn_t hF rfl rfl rfl rfl) (.inr hSS) (yl_bin hF rfl rfl rfl rfl (fun _ => run_add (by refine ⟨?_, ?_⟩ <;> omega))) ?_
                      clear hF; intro a hF
                      refine ha_yl 27 hF rfl rfl rfl (by kernel_rfl) (by kernel_rfl) (by kernel_rfl) (by decide) (fun _ _ _ h => h) (wn_t hF rfl rfl rfl rfl) (.inr hSS) (yl_bin hF rfl rfl rfl rfl (fun _ => run_gtr)) ?_
                      clear hF; intro a hF
                      replace hF := fr_set (b' := false) hF (by rw [decide_eq_false_iff_not]; have hff := divF_fair (L := G308) (n := ((rnd (n) (100 : Int)))) (by assumption) (by omega) (by omega) hx340 hx345 hx346 hx343 (by omega); omega)
                      refine ha_yl 28 hF rfl rfl rfl (by kernel_rfl) (by kernel_rfl) (by kernel_rfl) (by decide) (fun _ _ _ h => h) (wn_none rfl) (.inr hSS) (yl_pick (u := _) (v := undef) hF rfl rfl (fun _ => rfl) (fun h => by cases h)) ?_
                      clear hF; intro a hF
                      refine ha_done (by kernel_rfl) ?_ _
                      refine then_n ?_
                      refine c_cond_f hF rfl ?_
                      refine wp_skip ?_
                      refine inb_n ?_
                      refine then_n ?_
                      refine c_region ?_
                      refine seq_yl hF (wn_none rfl) rfl rfl (yl_move hF rfl rfl) ?_
                      clear hF; intro a hF
                      refine seq_yl hF (wn_none rfl) rfl rfl (yl_bin hF rfl rfl rfl rfl (fun _ => run_inc (by omega))) ?_
                      clear hF; intro a hF
                      refine seq_yl hF (wn_none rfl) rfl rfl (yl_assign hF rfl rfl) ?_
                      clear hF; intro a hF
                      refine wpList_nil ?_
                      refine then_n ?_
                      exact ⟨_, (by omega), q + 1, rfl, (by omega), hF.to [6, 7, 8, 11, 14, 15] rfl, (hS.sub [0, 1] (by decide) (by first | rfl | simp) (by simp))⟩
                    · first | (replace hc342 := of_decide_eq_false hc342) | (replace hc342 := of_decide_eq_true (bnot_f hc342)) | (subst hc342) | (replace hc342 := bnot_f hc342; subst hc342) | (replace hc342 := bnot_f hc342) | skip
                      refine ha_skip 6 hF rfl rfl rfl (by kernel_rfl) (by kernel_rfl) (by kernel_rfl) (by decide) (fun _ _ _ h => h) (wn_f hF rfl rfl rfl rfl) (.inr hSS) ?_
                      clear hF; intro a hF
                      refine ha_skip 7 hF rfl rfl rfl (by kernel_rfl) (by kernel_rfl) (by kernel_rfl) (by decide) (fun _ _ _ h => h) (wn_f hF rfl rfl rfl rfl) (.inr hSS) ?_
                      clear hF; intro a hF
                      refine ha_skip 8 hF rfl rfl rfl (by kernel_rfl) (by kernel_rfl) (by kernel_rfl) (by decide) (fun _ _ _ h => h) (wn_f hF rfl rfl rfl rfl) (.inr hSS) ?_
                      clear hF; intro a hF
                      refine ha_skip 9 hF rfl rfl rfl (by kernel_rfl) (by kernel_rfl) (by kernel_rfl) (by decide) (fun _ _ _ h => h) (wn_f hF rfl rfl rfl rfl) (.inr hSS) ?_
                      clear hF; intro a hF
                      refine ha_skip 10 hF rfl rfl rfl (by kernel_rfl) (by kernel_rfl) (by kernel_rfl) (by decide) (fun _ _ _ h => h) (wn_f hF rfl rfl rfl rfl) (.inr hSS) ?_
                      clear hF; intro a hF
                      refine ha_skip 11 hF rfl rfl rfl (by kernel_rfl) (by kernel_rfl) (by kernel_rfl) (by decide) (fun _ _ _ h => h) (wn_f hF rfl rfl rfl rfl) (.inr hSS) ?_
                      clear hF; intro a hF
                      refine ha_skip 12 hF rfl rfl rfl (by kernel_rfl) (by kernel_rfl) (by kernel_rfl) (by decide) (fun _ _ _ h => h) (wn_f hF rfl rfl rfl rfl) (.inr hSS) ?_
                      clear hF; intro a hF
                      refine ha_skip 13 hF rfl rfl rfl (by kernel_rfl) (by kernel_rfl) (by kernel_rfl) (by decide) (fun _ _ _ h => h) (wn_f hF rfl rfl rfl rfl) (.inr hSS) ?_
                      clear hF; intro a hF
                      refine ha_skip 14 hF rfl rfl rfl (by kernel_rfl) (by kernel_rfl) (by kernel_rfl) (by decide) (fun _ _ _ h => h) (wn_f hF rfl rfl rfl rfl) (.inr hSS) ?_
                      clear hF; intro a hF
                      refine ha_skip 15 hF rfl rfl rfl (by kernel_rfl) (by kernel_rfl) (by kernel_rfl) (by decide) (fun _ _ _ h => h) (wn_f hF rfl rfl rfl rfl) (.inr hSS) ?_
                      clear hF; intro a hF
                      refine ha_skip 16 hF rfl rfl rfl (by kernel_rfl) (by kernel_rfl) (by kernel_rfl) (by decide) (fun _ _ _ h => h) (wn_f hF rfl rfl rfl rfl) (.inr hSS) ?_
                      clear hF; intro a hF
                      refine ha_skip 17 hF rfl rfl rfl (by kernel_rfl) (by kernel_rfl) (by kernel_rfl) (by decide) (fun _ _ _ h => h) (wn_f hF rfl rfl rfl rfl) (.inr hSS) ?_
                      clear hF; intro a hF
                      refine ha_skip 18 hF rfl rfl rfl (by kernel_rfl) (by kernel_rfl) (by kernel_rfl) (by decide) (fun _ _ _ h => h) (wn_f hF rfl rfl rfl rfl) (.inr hSS) ?_
                      clear hF; intro a hF
                      refine ha_skip 19 hF rfl rfl rfl (by kernel_rfl) (by kernel_rfl) (by kernel_rfl) (by decide) (fun _ _ _ h => h) (wn_f hF rfl rfl rfl rfl) (.inr hSS) ?_
                      clear hF; intro a hF
                      refine ha_skip 20 hF rfl rfl rfl (by kernel_rfl) (by kernel_rfl) (by kernel_rfl) (by decide) (fun _ _ _ h => h) (wn_f hF rfl rfl rfl rfl) (.inr hSS) ?_
                      clear hF; intro a hF
                      refine ha_skip 21 hF rfl rfl rfl (by kernel_rfl) (by kernel_rfl) (by kernel_rfl) (by decide) (fun _ _ _ h => h) (wn_f hF rfl rfl rfl rfl) (.inr hSS) ?_
                      clear hF; intro a hF
                      refine ha_skip 22 hF rfl rfl rfl (by kernel_rfl) (by kernel_rfl) (by kernel_rfl) (by decide) (fun _ _ _ h => h) (wn_f hF rfl rfl rfl rfl) (.inr hSS) ?_
                      clear hF; intro a hF
                      refine ha_skip 23 hF rfl rfl rfl (by kernel_rfl) (by kernel_rfl) (by kernel_rfl) (by decide) (fun _ _ _ h => h) (wn_f hF rfl rfl rfl rfl) (.inr hSS) ?_
                      clear hF; intro a hF
                      refine ha_skip 24 hF rfl rfl rfl (by kernel_rfl) (by kernel_rfl) (by kernel_rfl) (by decide) (fun _ _ _ h => h) (wn_f hF rfl rfl rfl rfl) (.inr hSS) ?_
                      clear hF; intro a hF
                      refine ha_skip 25 hF rfl rfl rfl (by kernel_rfl) (by kernel_rfl) (by kernel_rfl) (by decide) (fun _ _ _ h => h) (wn_f hF rfl rfl rfl rfl) (.inr hSS) ?_
                      clear hF; intro a hF
                      refine ha_skip 26 hF rfl rfl rfl (by kernel_rfl) (by kernel_rfl) (by kernel_rfl) (by decide) (fun _ _ _ h => h) (wn_f hF rfl rfl rfl rfl) (.inr hSS) ?_
                      clear hF; intro a hF
                      refine ha_skip 27 hF rfl rfl rfl (by kernel_rfl) (by kernel_rfl) (by kernel_rfl) (by decide) (fun _ _ _ h => h) (wn_f hF rfl rfl rfl rfl) (.inr hSS) ?_
                      clear hF; intro a hF
                      refine ha_yl 28 hF rfl rfl rfl (by kernel_rfl) (by kernel_rfl) (by kernel_rfl) (by decide) (fun _ _ _ h => h) (wn_none rfl) (.inr hSS) (yl_pick (u := _) (v := undef) hF rfl rfl (fun h => by cases h) (fun _ => rfl)) ?_
                      clear hF; intro a hF
                      refine ha_done (by kernel_rfl) ?_ _
                      refine then_n ?_
                      refine c_cond_f hF rfl ?_
                      refine wp_skip ?_
                      refine inb_n ?_
                      refine then_n ?_
                      refine c_region ?_
                      refine seq_yl hF (wn_none rfl) rfl rfl (yl_move hF rfl rfl) ?_
                      clear hF; intro a hF
                      refine seq_yl hF (wn_none rfl) rfl rfl (yl_bin hF rfl rfl rfl rfl (fun _ => run_inc (by omega))) ?_
                      clear hF; intro a hF
                      refine seq_yl hF (wn_none rfl) rfl rfl (yl_assign hF rfl rfl) ?_
                      clear hF; intro a hF
                      refine wpList_nil ?_
                      refine then_n ?_
                      exact ⟨_, (by omega), q + 1, rfl, (by omega), hF.to [6, 7, 8, 11, 14, 15] rfl, (hS.sub [0, 1] (by decide) (by first | rfl | simp) (by simp))⟩
                  · first | (replace hc339 := of_decide_eq_false hc339) | (replace hc339 := of_decide_eq_true (bnot_f hc339)) | (subst hc339) | (replace hc339 := bnot_f hc339; subst hc339) | (replace hc339 := bnot_f hc339) | skip
                    refine wp_exit ?_
                    refine then_x ?_
                    refine then_x ?_
                    refine inb_x ?_
                    refine inb_n ?_
                    refine then_n ?_
                    refine c_region ?_
                    refine seq_yl hF (wn_none rfl) rfl rfl (yl_move hF rfl rfl) ?_
                    clear hF; intro a hF
                    refine seq_yl hF (wn_none rfl) rfl rfl (yl_bin hF rfl rfl rfl rfl (fun _ => run_inc (by omega))) ?_
                    clear hF; intro a hF
                    refine seq_yl hF (wn_none rfl) rfl rfl (yl_assign hF rfl rfl) ?_
                    clear hF; intro a hF
                    refine wpList_nil ?_
                    refine then_n ?_
                    exact ⟨_, (by omega), p + 1, rfl, (by omega), hF.to [6, 7, 8, 11, 14] rfl, (hS.sub [0, 1] (by decide) (by first | rfl | simp) (by simp))⟩
              · first | (replace hc338 := of_decide_eq_false hc338) | (replace hc338 := of_decide_eq_true (bnot_f hc338)) | (subst hc338) | (replace hc338 := bnot_f hc338; subst hc338) | (replace hc338 := bnot_f hc338) | skip
                refine wp_exit ?_
                refine then_x ?_
                refine then_x ?_
                refine inb_x ?_
                refine then_n ?_
                refine c_seq ?_
                refine c_region ?_
                refine seq_wp (wn_none rfl) (wp_call (vs := []) hF rfl rfl rfl rfl cf24 (awake_any _) ?_)
                clear hF; rintro _ w ⟨rfl, hS1⟩ a hF
                replace hS := hS.callB hS1 rfl; clear hS1
                refine seq_yl hF (wn_none rfl) rfl rfl (yl_assign hF rfl rfl) ?_
                clear hF; intro a hF
                refine wpList_nil ?_
                refine then_n ?_
                refine wp_ret ?_
                refine ret_t hF rfl rfl ?_
                exact ⟨_, rfl, rfl, (hS.sub [] (by decide) (by first | rfl | simp) (by simp))⟩
            · first | (replace hc337 := of_decide_eq_false hc337) | (replace hc337 := of_decide_eq_true (bnot_f hc337)) | (subst hc337) | (replace hc337 := bnot_f hc337; subst hc337) | (replace hc337 := bnot_f hc337) | skip
              refine seq_skip hF (wn_f hF rfl rfl rfl rfl) rfl rfl ?_
              clear hF; intro a hF
              refine seq_skip hF (wn_f hF rfl rfl rfl rfl) rfl rfl ?_
              clear hF; intro a hF
              refine seq_skip hF (wn_f hF rfl rfl rfl rfl) rfl rfl ?_
              clear hF; intro a hF
              refine seq_yl hF (wn_none rfl) rfl rfl (yl_pick (u := _) (v := undef) hF rfl rfl (fun h => by cases h) (fun _ => rfl)) ?_
              clear hF; intro a hF
              refine wpList_nil ?_
              refine then_n ?_
              refine c_cond_f hF rfl ?_
              refine wp_exit ?_
              refine then_x ?_
              refine then_x ?_
              refine inb_x ?_
              refine then_n ?_
              refine c_seq ?_
              refine c_region ?_
              refine seq_wp (wn_none rfl) (wp_call (vs := []) hF rfl rfl rfl rfl cf24 (awake_any _) ?_)
              clear hF; rintro _ w ⟨rfl, hS1⟩ a hF
              replace hS := hS.callB hS1 rfl; clear hS1
              refine seq_yl hF (wn_none rfl) rfl rfl (yl_assign hF rfl rfl) ?_
              clear hF; intro a hF
              refine wpList_nil ?_
              refine then_n ?_
              refine wp_ret ?_
              refine ret_t hF rfl rfl ?_
              exact ⟨_, rfl, rfl, (hS.sub [] (by decide) (by first | rfl | simp) (by simp))⟩

end Go.Proofs.Ytiifpgkdgnoafaa

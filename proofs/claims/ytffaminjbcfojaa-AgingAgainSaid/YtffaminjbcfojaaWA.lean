/- walks, printed by wip/gen -/
import Derived.Test.YtffaminjbcfojaaW7
import Derived.Test.YtffaminjbcfojaaW8
import Derived.Test.YtffaminjbcfojaaP2
namespace Go.Proofs.Ytffaminjbcfojaa
open Go.RowKit
set_option linter.unusedVariables false
set_option linter.unusedSimpArgs false

set_option maxHeartbeats 4000000 in
set_option maxRecDepth 100000 in
theorem again_law (v : Value) (L : List Int) (w0 : World) (hv : Rd w0 1 v (L).length (cells encI (L))) (hL : L.length ≤ 9223372036854775807) :
    Fn Try.prog 5 #[v] w0 (fun v w' => v = .bool true ∧ Sat w0 w' []) := by
  obtain ⟨Av, cv, rfl⟩ := Rd.form hv
  refine c_enter (N := 145) (l := [_]) Try.func5 rfl rfl (fun a w hF hS => ?_)
  replace hS := hS.addRo hv
  refine c_seq ?_
  refine c_region ?_
  refine seq_yl hF (wn_none rfl) rfl rfl (yl_assign hF rfl rfl) ?_
  clear hF; intro a hF
  refine wpList_nil ?_
  refine then_n ?_
  refine c_seq ?_
  refine c_region ?_
  refine seq_yl hF (wn_none rfl) rfl rfl (yl_move hF rfl rfl) ?_
  clear hF; intro a hF
  refine seq_yl hF (wn_none rfl) rfl rfl (yl_build (parts := [(0, .tmp 14)]) (vs := [(0, _)]) (cs := [_, _]) hF bd25 rfl rfl rfl rfl) ?_
  clear hF; intro a hF
  refine seq_wp (wn_none rfl) (wp_box (cs := #[_, _]) hF hS rfl rfl rfl rfl rfl ?_)
  clear hF hS; intro a w g327 hF hS
  refine seq_yl hF (wn_none rfl) rfl rfl (yl_assign hF rfl rfl) ?_
  clear hF; intro a hF
  refine wpList_nil ?_
  refine then_n ?_
  refine c_seq ?_
  refine c_region ?_
  refine seq_yl hF (wn_none rfl) rfl rfl (yl_move hF rfl rfl) ?_
  clear hF; intro a hF
  refine seq_wp (wn_none rfl) (wp_call (vs := [_]) hF rfl rfl rfl rfl cf6 (drawn_any _ _ _ _ _ _ _ (0 : Nat) hS (by omega) (by omega)) ?_)
  clear hF; rintro _ w ⟨v328, G329, it330, rfl, hGG329, hiit330, hS1⟩ a hF; replace hS := hS1; clear hS1
  obtain ⟨Av328, cv328, rfl⟩ := hS.form 0 rfl
  replace hS := hS.toRo 0 rfl
  refine seq_yl hF (wn_none rfl) rfl rfl (yl_assign hF rfl rfl) ?_
  clear hF; intro a hF
  refine wpList_nil ?_
  refine then_n ?_
  refine c_seq ?_
  refine c_seq ?_
  refine c_region ?_
  refine seq_yl hF (wn_none rfl) rfl rfl (yl_move hF rfl rfl) ?_
  clear hF; intro a hF
  refine seq_wp (wn_none rfl) (wp_call (vs := [_]) hF rfl rfl rfl rfl cf19 (check1 _ G329  _ (hS.rdRo 0 rfl) (by first | omega | (simp; done) | (simp; omega))) ?_)
  clear hF; rintro _ w ⟨rfl, hS1⟩ a hF
  replace hS := hS.callB hS1 rfl; clear hS1
  refine seq_yl hF (wn_none rfl) rfl rfl (yl_un hF rfl rfl (fun _ => run_not)) ?_
  clear hF; intro a hF
  refine seq_yl hF (wn_none rfl) rfl rfl (yl_move hF rfl rfl) ?_
  clear hF; intro a hF
  refine fr_split hF (fun hc331 hF => ?_) (fun hc331 hF => ?_)
  · first | (replace hc331 := of_decide_eq_true hc331) | (replace hc331 := of_decide_eq_false (bnot_t hc331)) | (subst hc331) | (replace hc331 := bnot_t hc331; subst hc331) | (replace hc331 := bnot_t hc331) | skip
    refine seq_skip hF (wn_f hF rfl rfl rfl rfl) rfl rfl ?_
    clear hF; intro a hF
    refine seq_skip hF (wn_f hF rfl rfl rfl rfl) rfl rfl ?_
    clear hF; intro a hF
    refine seq_skip hF (wn_f hF rfl rfl rfl rfl) rfl rfl ?_
    clear hF; intro a hF
    refine seq_yl hF (wn_none rfl) rfl rfl (yl_pick (u := _) (v := undef) hF rfl rfl (fun _ => rfl) (fun h => by cases h)) ?_
    clear hF; intro a hF
    refine wpList_nil ?_
    refine then_n ?_
    refine c_cond_t hF rfl ?_
    refine c_seq ?_
    refine c_region ?_
    refine seq_wp (wn_none rfl) (wp_call (vs := []) hF rfl rfl rfl rfl cf22 (awake_any _) ?_)
    clear hF; rintro _ w ⟨rfl, hS1⟩ a hF
    replace hS := hS.callB hS1 rfl; clear hS1
    refine seq_yl hF (wn_none rfl) rfl rfl (yl_assign hF rfl rfl) ?_
    clear hF; intro a hF
    refine wpList_nil ?_
    refine then_n ?_
    refine wp_ret ?_
    refine then_r ?_
    refine ret_t hF rfl rfl ?_
    exact ⟨_, rfl, rfl, (hS.sub [] (by decide) (by first | rfl | simp) (by simp))⟩
  · first | (replace hc331 := of_decide_eq_false hc331) | (replace hc331 := of_decide_eq_true (bnot_f hc331)) | (subst hc331) | (replace hc331 := bnot_f hc331; subst hc331) | (replace hc331 := bnot_f hc331) | skip
    refine seq_yl hF (wn_t hF rfl rfl rfl rfl) rfl rfl (yl_move hF rfl rfl) ?_
    clear hF; intro a hF
    refine seq_yl hF (wn_t hF rfl rfl rfl rfl) rfl rfl (yl_len hF rfl rfl (fun _ => run_lenRd sl26 (hS.rdRo 0 rfl))) ?_
    clear hF; intro a hF
    refine seq_yl hF (wn_t hF rfl rfl rfl rfl) rfl rfl (yl_bin hF rfl rfl rfl rfl (fun _ => run_eql)) ?_
    clear hF; intro a hF
    refine seq_yl hF (wn_none rfl) rfl rfl (yl_pick (u := _) (v := undef) hF rfl rfl (fun h => by cases h) (fun _ => rfl)) ?_
    clear hF; intro a hF
    refine wpList_nil ?_
    refine then_n ?_
    refine c_cond hF rfl (fun hc332 => ?_) (fun hc332 => ?_)
    · first | (replace hc332 := of_decide_eq_true hc332) | (replace hc332 := of_decide_eq_false (bnot_t hc332)) | (subst hc332) | (replace hc332 := bnot_t hc332; subst hc332) | (replace hc332 := bnot_t hc332) | skip
      refine c_seq ?_
      refine c_region ?_
      refine seq_wp (wn_none rfl) (wp_call (vs := []) hF rfl rfl rfl rfl cf22 (awake_any _) ?_)
      clear hF; rintro _ w ⟨rfl, hS1⟩ a hF
      replace hS := hS.callB hS1 rfl; clear hS1
      refine seq_yl hF (wn_none rfl) rfl rfl (yl_assign hF rfl rfl) ?_
      clear hF; intro a hF
      refine wpList_nil ?_
      refine then_n ?_
      refine wp_ret ?_
      refine then_r ?_
      refine ret_t hF rfl rfl ?_
      exact ⟨_, rfl, rfl, (hS.sub [] (by decide) (by first | rfl | simp) (by simp))⟩
    · first | (replace hc332 := of_decide_eq_false hc332) | (replace hc332 := of_decide_eq_true (bnot_f hc332)) | (subst hc332) | (replace hc332 := bnot_f hc332; subst hc332) | (replace hc332 := bnot_f hc332) | skip
      refine wp_skip ?_
      refine then_n ?_
      refine c_seq ?_
      refine c_region ?_
      have hok : okA G329 := by assumption
      refine seq_yl hF (wn_none rfl) rfl rfl (yl_move hF rfl rfl) ?_
      clear hF; intro a hF
      refine seq_yl hF (wn_none rfl) rfl rfl (yl_move hF rfl rfl) ?_
      clear hF; intro a hF
      refine seq_yl hF (wn_none rfl) rfl rfl (yl_len hF rfl rfl (fun _ => run_lenRd sl26 (hS.rdRo 0 rfl))) ?_
      clear hF; intro a hF
      replace hS := (hS.sub [1, 2, 0] (by decide) (by first | rfl | simp) (by simp))
      refine seq_wp (wn_none rfl) (wp_call (vs := [_, _]) hF rfl rfl rfl rfl cf7 (next_any _ _ _ _ _ _ _ (it330 : Nat) (((G329).length : Nat) : Int) (by omega) hS (by omega) (by omega)) ?_)
      clear hF; rintro _ w ⟨r333, it334, rfl, hb335, hiit334, hS1⟩ a hF; replace hS := hS1; clear hS1
      obtain ⟨rn336, rfl⟩ : ∃ n : Nat, r333 = n := ⟨r333.toNat, by omega⟩
      refine seq_yl hF (wn_none rfl) rfl rfl (yl_assign hF rfl rfl) ?_
      clear hF; intro a hF
      refine wpList_nil ?_
      refine then_n ?_
      refine c_seq ?_
      refine ha_startS hS [2] 12 (by kernel_rfl) ?_; clear hS; intro w hS
      have hSS := hS.sub [2] (by decide) rfl (by simp)
      refine ha_y 0 hF rfl rfl rfl (wn_none rfl) (.inr hSS) (yl_move hF rfl rfl) ?_
      clear hF; intro a hF
      refine ha_y 1 hF rfl rfl rfl (wn_none rfl) (.inr hSS) (yl_move hF rfl rfl) ?_
      clear hF; intro a hF
      refine ha_y 2 hF rfl rfl rfl (wn_none rfl) (.inr hSS) (yl_len hF rfl rfl (fun _ => run_lenRd sl26 (hS.rdRo 2 rfl))) ?_
      clear hF; intro a hF
      refine ha_y 3 hF rfl rfl rfl (wn_none rfl) (.inr hSS) (yl_bin hF rfl rfl rfl rfl (fun _ => run_dec (c := 1) (by omega) (by omega))) ?_
      clear hF; intro a hF
      have hlt_hx337 : ((G329).length - 1) < (G329).length := by first | omega | (simp; done) | (simp; omega)
      obtain ⟨ad338, rfl⟩ := rd_some (hS.rdRo 2 rfl) hlt_hx337
      obtain ⟨x337, hx337⟩ := get_some hlt_hx337
      refine ha_y 4 hF rfl rfl rfl (wn_none rfl) (.inr hSS) (yl_indexAddr hF rfl rfl rfl (fun _ => run_idx' sl26 sz44 (hS.rdRo 2 rfl) hlt_hx337)) ?_
      clear hF; intro a hF
      refine ha_y 5 hF rfl rfl rfl (wn_none rfl) (.inr hSS) (yl_fieldAddr hF rfl rfl (fun w => run_fa fo44_1)) ?_
      clear hF; intro a hF
      refine ha_y 7 hF rfl rfl rfl (wn_none rfl) (.inr hSS) (yl_move hF rfl rfl) ?_
      clear hF; intro a hF
      refine ha_l 6 hF rfl rfl rfl (wn_none rfl) hSS (yl_loadAt hF rfl rfl ag3 (fun _ h => rd_cell (j := 1) (enc := enc44) (Sat.rdRo h 0 rfl) enc44_len hx337 rfl rfl)) ?_
      clear hF; intro a hF
      refine ha_one 8 (by kernel_rfl) rfl (wn_none rfl) (wp_call (vs := [_, _]) hF rfl rfl rfl rfl cf7 (next_any _ _ _ _ _ _ _ (it334 : Nat) (5 : Int) (by omega) hS (by omega) (by omega)) ?_)
      clear hF; rintro _ w ⟨r339, it340, rfl, hb341, hiit340, hS1⟩ a hF; replace hS := hS1; clear hS1
      replace hSS := hS.sub [2] (by decide) rfl (by simp)
      refine ⟨.inr hSS, ?_⟩
      have hfz := hok.1 _ (List.mem_of_getElem? hx337); unfold fok at hfz
      refine ha_y 9 hF rfl rfl rfl (wn_none rfl) (.inr hSS) (yl_bin hF rfl rfl rfl rfl (fun _ => run_add (by refine ⟨?_, ?_⟩ <;> omega))) ?_
      clear hF; intro a hF
      refine ha_y 10 hF rfl rfl rfl (wn_none rfl) (.inr hSS) (yl_min2 hF rfl rfl rfl) ?_
      clear hF; intro a hF
      refine ha_y 11 hF rfl rfl rfl (wn_none rfl) (.inr hSS) (yl_assign hF rfl rfl) ?_
      clear hF; intro a hF
      refine ha_done (by kernel_rfl) ?_ _
      refine then_n ?_
      refine c_seq ?_
      refine c_region ?_
      refine seq_yl hF (wn_none rfl) rfl rfl (yl_move hF rfl rfl) ?_
      clear hF; intro a hF
      refine seq_yl hF (wn_none rfl) rfl rfl (yl_move hF rfl rfl) ?_
      clear hF; intro a hF
      refine seq_yl hF (wn_none rfl) rfl rfl (yl_move hF rfl rfl) ?_
      clear hF; intro a hF
      have hlt_hx342 : rn336 < (G329).length := by first | omega | (simp; done) | (simp; omega)
      obtain ⟨x342, hx342⟩ := get_some hlt_hx342
      refine seq_yl hF (wn_none rfl) rfl rfl (yl_indexAddr hF rfl rfl rfl (fun _ => run_idx' sl26 sz44 (hS.rdRo 2 rfl) hlt_hx342)) ?_
      clear hF; intro a hF
      refine seq_yl hF (wn_none rfl) rfl rfl (yl_fieldAddr hF rfl rfl (fun w => run_fa0 fo44_0)) ?_
      clear hF; intro a hF
      refine seq_yl hF (wn_none rfl) rfl rfl (yl_loadAt hF rfl rfl ag3 (fun _ h => rd_cell0 (enc := enc44) (by subst h; exact hS.rdRo 2 rfl) enc44_len hx342 rfl rfl)) ?_
      clear hF; intro a hF
      refine seq_yl hF (wn_none rfl) rfl rfl (yl_move hF rfl rfl) ?_
      clear hF; intro a hF
      refine seq_wp (wn_none rfl) (wp_call (vs := [_, _, _]) hF rfl rfl rfl rfl cf13 (again_any _ G329 (x342.f0) ((min (((x337.f1) + (r339))) (1000000 : Int))) _ (hS.rdRo 2 rfl) (by first | omega | (simp; done) | (simp; omega))) ?_)
      clear hF; rintro _ w ⟨v343, L344, e345, rfl, hp346, hS1⟩ a hF
      replace hS := hS.callB hS1 rfl; clear hS1
      obtain ⟨Av343, cv343, rfl⟩ := hS.form 0 rfl
      have hlhp346 := ag_len hp346
      obtain ⟨h1, h2⟩ := again_is hok hx342 hx337 (by omega) hp346; subst h1 h2
      have hrl := rl_len (d := (E44.mk x342.f0 ((min (((x337.f1) + (r339))) (1000000 : Int))))) (show rn336 < G329.length by omega)
      refine seq_yl hF (wn_none rfl) rfl rfl (yl_move hF rfl rfl) ?_
      clear hF; intro a hF
      refine seq_yl hF (wn_none rfl) rfl rfl (yl_extract hF rfl rfl rfl) ?_
      clear hF; intro a hF
      refine seq_yl hF (wn_none rfl) rfl rfl (yl_extract hF rfl rfl rfl) ?_
      clear hF; intro a hF
      refine seq_yl hF (wn_none rfl) rfl rfl (yl_assign hF rfl rfl) ?_
      clear hF; intro a hF
      refine seq_yl hF (wn_none rfl) rfl rfl (yl_assign hF rfl rfl) ?_
      clear hF; intro a hF
      refine wpList_nil ?_
      refine then_n ?_
      refine c_seq ?_
      refine c_region ?_
      refine seq_yl hF (wn_none rfl) rfl rfl (yl_move hF rfl rfl) ?_
      clear hF; intro a hF
      refine seq_yl hF (wn_none rfl) rfl rfl (yl_move hF rfl rfl) ?_
      clear hF; intro a hF
      refine seq_yl hF (wn_none rfl) rfl rfl (yl_move hF rfl rfl) ?_
      clear hF; intro a hF
      refine seq_yl hF (wn_none rfl) rfl rfl (yl_indexAddr hF rfl rfl rfl (fun _ => run_idx' sl26 sz44 (hS.rdRo 3 rfl) hlt_hx342)) ?_
      clear hF; intro a hF
      refine seq_yl hF (wn_none rfl) rfl rfl (yl_fieldAddr hF rfl rfl (fun w => run_fa0 fo44_0)) ?_
      clear hF; intro a hF
      refine seq_yl hF (wn_none rfl) rfl rfl (yl_loadAt hF rfl rfl ag3 (fun _ h => rd_cell0 (enc := enc44) (by subst h; exact hS.rdRo 3 rfl) enc44_len hx342 rfl rfl)) ?_
      clear hF; intro a hF
      refine seq_wp (wn_none rfl) (wp_call (vs := [_, _]) hF rfl rfl rfl rfl cf11 (remove_any _ G329 (x342.f0) _ (hS.rdRo 3 rfl) (by first | omega | (simp; done) | (simp; omega))) ?_)
      clear hF; rintro _ w ⟨v347, L348, e349, rfl, hp350, hS1⟩ a hF
      replace hS := hS.callB hS1 rfl; clear hS1
      obtain ⟨Av347, cv347, rfl⟩ := hS.form 0 rfl
      have hlhp350 := rem_len hp350
      obtain ⟨h1, h2⟩ := rem_is hok hx342 hp350; subst h1 h2
      refine seq_yl hF (wn_none rfl) rfl rfl (yl_move hF rfl rfl) ?_
      clear hF; intro a hF
      refine seq_yl hF (wn_none rfl) rfl rfl (yl_extract hF rfl rfl rfl) ?_
      clear hF; intro a hF
      refine seq_yl hF (wn_none rfl) rfl rfl (yl_extract hF rfl rfl rfl) ?_
      clear hF; intro a hF
      refine seq_yl hF (wn_none rfl) rfl rfl (yl_assign hF rfl rfl) ?_
      clear hF; intro a hF
      refine seq_yl hF (wn_none rfl) rfl rfl (yl_assign hF rfl rfl) ?_
      clear hF; intro a hF
      refine wpList_nil ?_
      refine then_n ?_
      refine c_seq ?_
      refine c_region ?_
      refine seq_yl hF (wn_none rfl) rfl rfl (yl_move hF rfl rfl) ?_
      clear hF; intro a hF
      refine seq_yl hF (wn_none rfl) rfl rfl (yl_move hF rfl rfl) ?_
      clear hF; intro a hF
      refine seq_yl hF (wn_none rfl) rfl rfl (yl_move hF rfl rfl) ?_
      clear hF; intro a hF
      refine seq_yl hF (wn_none rfl) rfl rfl (yl_indexAddr hF rfl rfl rfl (fun _ => run_idx' sl26 sz44 (hS.rdRo 4 rfl) hlt_hx342)) ?_
      clear hF; intro a hF
      refine seq_yl hF (wn_none rfl) rfl rfl (yl_fieldAddr hF rfl rfl (fun w => run_fa0 fo44_0)) ?_
      clear hF; intro a hF
      refine seq_yl hF (wn_none rfl) rfl rfl (yl_loadAt hF rfl rfl ag3 (fun _ h => rd_cell0 (enc := enc44) (by subst h; exact hS.rdRo 4 rfl) enc44_len hx342 rfl rfl)) ?_
      clear hF; intro a hF
      refine seq_yl hF (wn_none rfl) rfl rfl (yl_move hF rfl rfl) ?_
      clear hF; intro a hF
      refine seq_wp (wn_none rfl) (wp_call (vs := [_, _, _]) hF rfl rfl rfl rfl cf9 (add_any _ (rl G329 rn336) (x342.f0) ((min (((x337.f1) + (r339))) (1000000 : Int))) _ (hS.rdRow 0 rfl) (by first | omega | (simp; done) | (simp; omega))) ?_)
      clear hF; rintro _ w ⟨v351, L352, e353, rfl, hp354, hS1⟩ a hF
      replace hS := hS.callB hS1 rfl; clear hS1
      obtain ⟨Av351, cv351, rfl⟩ := hS.form 0 rfl
      have hlhp354 := add_len hp354
      obtain ⟨h1, h2⟩ := add_is hok hx342 hx337 (by omega) hp354; subst h1 h2
      have hrl := rl_len (d := (E44.mk x342.f0 ((min (((x337.f1) + (r339))) (1000000 : Int))))) (show rn336 < G329.length by omega)
      refine seq_yl hF (wn_none rfl) rfl rfl (yl_move hF rfl rfl) ?_
      clear hF; intro a hF
      refine seq_yl hF (wn_none rfl) rfl rfl (yl_extract hF rfl rfl rfl) ?_
      clear hF; intro a hF
      refine seq_yl hF (wn_none rfl) rfl rfl (yl_extract hF rfl rfl rfl) ?_
      clear hF; intro a hF
      refine seq_yl hF (wn_none rfl) rfl rfl (yl_assign hF rfl rfl) ?_
      clear hF; intro a hF
      refine seq_yl hF (wn_none rfl) rfl rfl (yl_assign hF rfl rfl) ?_
      clear hF; intro a hF
      refine wpList_nil ?_
      refine then_n ?_
      refine c_seq ?_
      refine c_seq ?_
      refine ha_startS hS [2, 5] 40 (by kernel_rfl) ?_; clear hS; intro w hS
      have hSS := hS.sub [2, 5] (by decide) rfl (by simp)
      refine ha_y 0 hF rfl rfl rfl (wn_none rfl) (.inr hSS) (yl_move hF rfl rfl) ?_
      clear hF; intro a hF
      refine ha_y 1 hF rfl rfl rfl (wn_none rfl) (.inr hSS) (yl_bin hF rfl rfl rfl rfl (fun _ => run_neq)) ?_
      clear hF; intro a hF
      replace hF := fr_set (b' := false) hF (by decide)
      refine ha_y 2 hF rfl rfl rfl (wn_none rfl) (.inr hSS) (yl_move hF rfl rfl) ?_
      clear hF; intro a hF
      refine ha_y 3 hF rfl rfl rfl (wn_t hF rfl rfl rfl rfl) (.inr hSS) (yl_move hF rfl rfl) ?_
      clear hF; intro a hF
      refine ha_y 4 hF rfl rfl rfl (wn_t hF rfl rfl rfl rfl) (.inr hSS) (yl_bin hF rfl rfl rfl rfl (fun _ => run_neq)) ?_
      clear hF; intro a hF
      replace hF := fr_set (b' := false) hF (by decide)
      refine ha_y 5 hF rfl rfl rfl (wn_none rfl) (.inr hSS) (yl_pick (u := _) (v := undef) hF rfl rfl (fun h => by cases h) (fun _ => rfl)) ?_
      clear hF; intro a hF
      refine ha_y 6 hF rfl rfl rfl (wn_none rfl) (.inr hSS) (yl_move hF rfl rfl) ?_
      clear hF; intro a hF
      refine ha_y 7 hF rfl rfl rfl (wn_t hF rfl rfl rfl rfl) (.inr hSS) (yl_move hF rfl rfl) ?_
      clear hF; intro a hF
      refine ha_y 8 hF rfl rfl rfl (wn_t hF rfl rfl rfl rfl) (.inr hSS) (yl_bin hF rfl rfl rfl rfl (fun _ => run_neq)) ?_
      clear hF; intro a hF
      replace hF := fr_set (b' := false) hF (by decide)
      refine ha_y 9 hF rfl rfl rfl (wn_none rfl) (.inr hSS) (yl_pick (u := _) (v := undef) hF rfl rfl (fun h => by cases h) (fun _ => rfl)) ?_
      clear hF; intro a hF
      refine ha_y 10 hF rfl rfl rfl (wn_none rfl) (.inr hSS) (yl_move hF rfl rfl) ?_
      clear hF; intro a hF
      refine ha_y 11 hF rfl rfl rfl (wn_t hF rfl rfl rfl rfl) (.inr hSS) (yl_move hF rfl rfl) ?_
      clear hF; intro a hF
      refine ha_y 12 hF rfl rfl rfl (wn_t hF rfl rfl rfl rfl) (.inr hSS) (yl_len hF rfl rfl (fun _ => run_lenRd sl26 (hS.rdRow 2 rfl))) ?_
      clear hF; intro a hF
      refine ha_y 13 hF rfl rfl rfl (wn_t hF rfl rfl rfl rfl) (.inr hSS) (yl_move hF rfl rfl) ?_
      clear hF; intro a hF
      refine ha_y 14 hF rfl rfl rfl (wn_t hF rfl rfl rfl rfl) (.inr hSS) (yl_len hF rfl rfl (fun _ => run_lenRd sl26 (hS.rdRo 5 rfl))) ?_
      clear hF; intro a hF
      refine ha_y 15 hF rfl rfl rfl (wn_t hF rfl rfl rfl rfl) (.inr hSS) (yl_bin hF rfl rfl rfl rfl (fun _ => run_neq)) ?_
      clear hF; intro a hF
      replace hF := fr_set (b' := false) hF (by rw [decide_eq_false_iff_not]; omega)
      refine ha_y 16 hF rfl rfl rfl (wn_none rfl) (.inr hSS) (yl_pick (u := _) (v := undef) hF rfl rfl (fun h => by cases h) (fun _ => rfl)) ?_
      clear hF; intro a hF
      refine ha_y 17 hF rfl rfl rfl (wn_none rfl) (.inr hSS) (yl_move hF rfl rfl) ?_
      clear hF; intro a hF
      refine ha_y 18 hF rfl rfl rfl (wn_t hF rfl rfl rfl rfl) (.inr hSS) (yl_move hF rfl rfl) ?_
      clear hF; intro a hF
      refine ha_y 19 hF rfl rfl rfl (wn_t hF rfl rfl rfl rfl) (.inr hSS) (yl_len hF rfl rfl (fun _ => run_lenRd sl26 (hS.rdRow 0 rfl))) ?_
      clear hF; intro a hF
      refine ha_y 20 hF rfl rfl rfl (wn_t hF rfl rfl rfl rfl) (.inr hSS) (yl_move hF rfl rfl) ?_
      clear hF; intro a hF
      refine ha_y 21 hF rfl rfl rfl (wn_t hF rfl rfl rfl rfl) (.inr hSS) (yl_len hF rfl rfl (fun _ => run_lenRd sl26 (hS.rdRo 5 rfl))) ?_
      clear hF; intro a hF
      refine ha_y 22 hF rfl rfl rfl (wn_t hF rfl rfl rfl rfl) (.inr hSS) (yl_bin hF rfl rfl rfl rfl (fun _ => run_neq)) ?_
      clear hF; intro a hF
      replace hF := fr_set (b' := false) hF (by rw [decide_eq_false_iff_not]; omega)
      refine ha_y 23 hF rfl rfl rfl (wn_none rfl) (.inr hSS) (yl_pick (u := _) (v := undef) hF rfl rfl (fun h => by cases h) (fun _ => rfl)) ?_
      clear hF; intro a hF
      refine ha_y 24 hF rfl rfl rfl (wn_none rfl) (.inr hSS) (yl_move hF rfl rfl) ?_
      clear hF; intro a hF
      refine ha_y 25 hF rfl rfl rfl (wn_t hF rfl rfl rfl rfl) (.inr hSS) (yl_move hF rfl rfl) ?_
      clear hF; intro a hF
      refine ha_y 26 hF rfl rfl rfl (wn_t hF rfl rfl rfl rfl) (.inr hSS) (yl_move hF rfl rfl) ?_
      clear hF; intro a hF
      refine ha_y 27 hF rfl rfl rfl (wn_t hF rfl rfl rfl rfl) (.inr hSS) (yl_len hF rfl rfl (fun _ => run_lenRd sl26 (hS.rdRow 2 rfl))) ?_
      clear hF; intro a hF
      refine ha_y 28 hF rfl rfl rfl (wn_t hF rfl rfl rfl rfl) (.inr hSS) (yl_bin hF rfl rfl rfl rfl (fun _ => run_dec (c := 1) (by omega) (by omega))) ?_
      clear hF; intro a hF
      have hlt_hx355 : (((rl G329 rn336 ++ [(E44.mk x342.f0 ((min (((x337.f1) + (r339))) (1000000 : Int))))])).length - 1) < ((rl G329 rn336 ++ [(E44.mk x342.f0 ((min (((x337.f1) + (r339))) (1000000 : Int))))])).length := by first | omega | (simp; done) | (simp; omega)
      obtain ⟨ad356, rfl⟩ := rd_some (hS.rdRow 2 rfl) hlt_hx355
      obtain ⟨x355, hx355⟩ := get_some hlt_hx355
      refine ha_y 29 hF rfl rfl rfl (wn_t hF rfl rfl rfl rfl) (.inr hSS) (yl_indexAddr hF rfl rfl rfl (fun _ => run_idx' sl26 sz44 (hS.rdRow 2 rfl) hlt_hx355)) ?_
      clear hF; intro a hF
      refine ha_y 31 hF rfl rfl rfl (wn_t hF rfl rfl rfl rfl) (.inr hSS) (yl_move hF rfl rfl) ?_
      clear hF; intro a hF
      refine ha_y 32 hF rfl rfl rfl (wn_t hF rfl rfl rfl rfl) (.inr hSS) (yl_move hF rfl rfl) ?_
      clear hF; intro a hF
      refine ha_y 33 hF rfl rfl rfl (wn_t hF rfl rfl rfl rfl) (.inr hSS) (yl_indexAddr hF rfl rfl rfl (fun _ => run_idx' sl26 sz44 (hS.rdRo 5 rfl) hlt_hx342)) ?_
      clear hF; intro a hF
      refine ha_y 34 hF rfl rfl rfl (wn_t hF rfl rfl rfl rfl) (.inr hSS) (yl_fieldAddr hF rfl rfl (fun w => run_fa0 fo44_0)) ?_
      clear hF; intro a hF
      refine ha_y 36 hF rfl rfl rfl (wn_t hF rfl rfl rfl rfl) (.inr hSS) (yl_move hF rfl rfl) ?_
      clear hF; intro a hF
      refine ha_l 30 hF rfl rfl rfl (wn_t hF rfl rfl rfl rfl) hSS (yl_loadEl (rs := [.int .i64 (x355.f0), .int .i64 (x355.f1)]) hF rfl rfl ag44 sz44 rfl (fun _ h => rd_cells (enc := enc44) (Sat.rdRow h 0 rfl) enc44_len hx355)) ?_
      clear hF; intro a hF
      refine ha_l 35 hF rfl rfl rfl (wn_t hF rfl rfl rfl rfl) hSS (yl_loadAt hF rfl rfl ag3 (fun _ h => rd_cell0 (enc := enc44) (Sat.rdRo h 1 rfl) enc44_len hx342 rfl rfl)) ?_
      clear hF; intro a hF
      refine ha_y 37 hF rfl rfl rfl (wn_t hF rfl rfl rfl rfl) (.inr hSS) (yl_build (parts := [(0, .tmp 110), (1, .tmp 111)]) (vs := [(0, _), (1, _)]) (cs := [_, _]) hF bd44 rfl rfl rfl rfl) ?_
      clear hF; intro a hF
      refine ha_y 38 hF rfl rfl rfl (wn_t hF rfl rfl rfl rfl) (.inr hSS) (yl_binA hF rfl rfl rfl (fun w => run_eqGuard_agg w _ _ _ _ _ _ hm44) (fun w => nes44 _ _ _ _ w)) ?_
      clear hF; intro a hF
      replace hF := fr_set (b' := false) hF (by have h9 := Option.some.inj (hx355.symm.trans last_get); rw [h9]; simp [hx355])
      refine ha_y 39 hF rfl rfl rfl (wn_none rfl) (.inr hSS) (yl_pick (u := _) (v := undef) hF rfl rfl (fun h => by cases h) (fun _ => rfl)) ?_
      clear hF; intro a hF
      refine ha_done (by kernel_rfl) ?_ _
      refine then_n ?_
      refine c_cond_f hF rfl ?_
      refine wp_skip ?_
      refine then_n ?_
      refine c_seq ?_
      refine c_region ?_
      refine seq_yl hF (wn_none rfl) rfl rfl (yl_assign hF rfl rfl) ?_
      clear hF; intro a hF
      refine wpList_nil ?_
      refine then_n ?_
      refine c_seq ?_
      refine c_seq ?_
      refine c_region ?_
      refine seq_yl hF (wn_none rfl) rfl rfl (yl_assign hF rfl rfl) ?_
      clear hF; intro a hF
      refine wpList_nil ?_
      refine then_n ?_
      refine wp_block ?_
      refine c_loop (fun m a w => ∃ (j k : Nat), m = G329.length - j ∧ (j ≤ G329.length ∧ (j ≤ rn336 → k = j) ∧ (rn336 < j → k + 1 = j)) ∧ Fr 145 a [(4, .slice (some ad338) (G329).length cv328), (5, .int .i64 ((rn336 : Nat) : Int)), (6, .int .i64 ((min (((x337.f1) + (r339))) (1000000 : Int)))), (7, .slice (some ad356) ((rl G329 rn336 ++ [(E44.mk x342.f0 ((min (((x337.f1) + (r339))) (1000000 : Int))))])).length cv343), (9, .slice Av351 ((rl G329 rn336 ++ [(E44.mk x342.f0 ((min (((x337.f1) + (r339))) (1000000 : Int))))])).length cv351), (12, .int .i64 ((k : Nat) : Int)), (13, .int .i64 ((j : Nat) : Int))] ∧ Sat w0 w (.row 44 2 (.slice Av351 ((rl G329 rn336 ++ [(E44.mk x342.f0 ((min (((x337.f1) + (r339))) (1000000 : Int))))])).length cv351) ((rl G329 rn336 ++ [(E44.mk x342.f0 ((min (((x337.f1) + (r339))) (1000000 : Int))))])).length (cells enc44 ((rl G329 rn336 ++ [(E44.mk x342.f0 ((min (((x337.f1) + (r339))) (1000000 : Int))))]))) :: .row 44 2 (.slice Av347 ((rl G329 rn336)).length cv347) ((rl G329 rn336)).length (cells enc44 ((rl G329 rn336))) :: .row 44 2 (.slice (some ad356) ((rl G329 rn336 ++ [(E44.mk x342.f0 ((min (((x337.f1) + (r339))) (1000000 : Int))))])).length cv343) ((rl G329 rn336 ++ [(E44.mk x342.f0 ((min (((x337.f1) + (r339))) (1000000 : Int))))])).length (cells enc44 ((rl G329 rn336 ++ [(E44.mk x342.f0 ((min (((x337.f1) + (r339))) (1000000 : Int))))]))) :: .box g327 25 #[.slice Av (L).length cv, .int .i64 ((it340 : Nat) : Int)] :: .ro 1 (.slice Av (L).length cv) (L).length (cells encI (L)) :: .ro 2 (.slice (some ad338) (G329).length cv328) (G329).length (cells enc44 (G329)) :: [])) (G329.length - 0) ?_ ?_
      · exact ⟨0, 0, rfl, ⟨by omega, by omega, by omega⟩, hF.to [4, 5, 6, 7, 9, 12, 13] rfl, (hS.sub [0, 1, 2, 3, 4, 5] (by decide) (by first | rfl | simp) (by simp))⟩
      · clear hF hS; try clear hSS
        clear a w; rintro m a w ⟨j, k, rfl, hinv, hF, hS⟩
        obtain ⟨hj, hk1, hk2⟩ := hinv
        refine c_seq ?_
        refine c_seq ?_
        refine c_region ?_
        refine seq_yl hF (wn_none rfl) rfl rfl (yl_move hF rfl rfl) ?_
        clear hF; intro a hF
        refine seq_yl hF (wn_none rfl) rfl rfl (yl_move hF rfl rfl) ?_
        clear hF; intro a hF
        refine seq_yl hF (wn_none rfl) rfl rfl (yl_len hF rfl rfl (fun _ => run_lenRd sl26 (hS.rdRo 5 rfl))) ?_
        clear hF; intro a hF
        refine seq_yl hF (wn_none rfl) rfl rfl (yl_bin hF rfl rfl rfl rfl (fun _ => run_lss)) ?_
        clear hF; intro a hF
        refine wpList_nil ?_
        refine then_n ?_
        refine c_cond hF rfl (fun hc357 => ?_) (fun hc357 => ?_)
        · first | (replace hc357 := of_decide_eq_true hc357) | (replace hc357 := of_decide_eq_false (bnot_t hc357)) | (subst hc357) | (replace hc357 := bnot_t hc357; subst hc357) | (replace hc357 := bnot_t hc357) | skip
          refine wp_skip ?_
          refine then_n ?_
          refine c_seq ?_
          refine wp_block ?_
          refine c_seq ?_
          refine c_seq ?_
          refine ha_startS hS [2, 0] 9 (by kernel_rfl) ?_; clear hS; intro w hS
          have hSS := hS.sub [2, 0] (by decide) rfl (by simp)
          refine ha_y 0 hF rfl rfl rfl (wn_none rfl) (.inr hSS) (yl_move hF rfl rfl) ?_
          clear hF; intro a hF
          refine ha_y 1 hF rfl rfl rfl (wn_none rfl) (.inr hSS) (yl_move hF rfl rfl) ?_
          clear hF; intro a hF
          have hlt_hx358 : j < ((rl G329 rn336 ++ [(E44.mk x342.f0 ((min (((x337.f1) + (r339))) (1000000 : Int))))])).length := by first | omega | (simp; done) | (simp; omega)
          obtain ⟨x358, hx358⟩ := get_some hlt_hx358
          refine ha_y 2 hF rfl rfl rfl (wn_none rfl) (.inr hSS) (yl_indexAddr hF rfl rfl rfl (fun _ => run_idx' sl26 sz44 (hS.rdRow 2 rfl) hlt_hx358)) ?_
          clear hF; intro a hF
          refine ha_y 4 hF rfl rfl rfl (wn_none rfl) (.inr hSS) (yl_move hF rfl rfl) ?_
          clear hF; intro a hF
          refine ha_y 5 hF rfl rfl rfl (wn_none rfl) (.inr hSS) (yl_move hF rfl rfl) ?_
          clear hF; intro a hF
          have hlt_hx359 : j < ((rl G329 rn336 ++ [(E44.mk x342.f0 ((min (((x337.f1) + (r339))) (1000000 : Int))))])).length := by first | omega | (simp; done) | (simp; omega)
          obtain ⟨ad360, rfl⟩ := rd_some (hS.rdRow 0 rfl) hlt_hx359
          obtain ⟨x359, hx359⟩ := get_some hlt_hx359
          refine ha_y 6 hF rfl rfl rfl (wn_none rfl) (.inr hSS) (yl_indexAddr hF rfl rfl rfl (fun _ => run_idx' sl26 sz44 (hS.rdRow 0 rfl) hlt_hx359)) ?_
          clear hF; intro a hF
          refine ha_l 3 hF rfl rfl rfl (wn_none rfl) hSS (yl_loadEl (rs := [.int .i64 (x358.f0), .int .i64 (x358.f1)]) hF rfl rfl ag44 sz44 rfl (fun _ h => rd_cells (enc := enc44) (Sat.rdRow h 0 rfl) enc44_len hx358)) ?_
          clear hF; intro a hF
          refine ha_l 7 hF rfl rfl rfl (wn_none rfl) hSS (yl_loadEl (rs := [.int .i64 (x359.f0), .int .i64 (x359.f1)]) hF rfl rfl ag44 sz44 rfl (fun _ h => rd_cells (enc := enc44) (Sat.rdRow h 1 rfl) enc44_len hx359)) ?_
          clear hF; intro a hF
          refine ha_y 8 hF rfl rfl rfl (wn_none rfl) (.inr hSS) (yl_binA hF rfl rfl rfl (fun w => run_eqGuard_agg w _ _ _ _ _ _ hm44) (fun w => nes44 _ _ _ _ w)) ?_
          clear hF; intro a hF
          replace hF := fr_set (b' := false) hF (by have h9 := Option.some.inj (hx358.symm.trans hx359); rw [h9]; simp)
          refine ha_done (by kernel_rfl) ?_ _
          refine then_n ?_
          refine c_cond_f hF rfl ?_
          refine wp_skip ?_
          refine then_n ?_
          refine c_seq ?_
          refine c_region ?_
          refine seq_yl hF (wn_none rfl) rfl rfl (yl_move hF rfl rfl) ?_
          clear hF; intro a hF
          refine seq_yl hF (wn_none rfl) rfl rfl (yl_move hF rfl rfl) ?_
          clear hF; intro a hF
          refine seq_yl hF (wn_none rfl) rfl rfl (yl_bin hF rfl rfl rfl rfl (fun _ => run_neq)) ?_
          clear hF; intro a hF
          refine wpList_nil ?_
          refine then_n ?_
          refine c_cond hF rfl (fun hc361 => ?_) (fun hc361 => ?_)
          · first | (replace hc361 := of_decide_eq_true hc361) | (replace hc361 := of_decide_eq_false (bnot_t hc361)) | (subst hc361) | (replace hc361 := bnot_t hc361; subst hc361) | (replace hc361 := bnot_t hc361) | skip
            refine c_seq ?_
            refine c_seq ?_
            refine ha_startS hS [2, 5] 9 (by kernel_rfl) ?_; clear hS; intro w hS
            have hSS := hS.sub [2, 5] (by decide) rfl (by simp)
            refine ha_y 0 hF rfl rfl rfl (wn_none rfl) (.inr hSS) (yl_move hF rfl rfl) ?_
            clear hF; intro a hF
            refine ha_y 1 hF rfl rfl rfl (wn_none rfl) (.inr hSS) (yl_move hF rfl rfl) ?_
            clear hF; intro a hF
            have hlt_hx362 : k < ((rl G329 rn336 ++ [(E44.mk x342.f0 ((min (((x337.f1) + (r339))) (1000000 : Int))))])).length := by first | omega | (simp; done) | (simp; omega)
            obtain ⟨x362, hx362⟩ := get_some hlt_hx362
            refine ha_y 2 hF rfl rfl rfl (wn_none rfl) (.inr hSS) (yl_indexAddr hF rfl rfl rfl (fun _ => run_idx' sl26 sz44 (hS.rdRow 2 rfl) hlt_hx362)) ?_
            clear hF; intro a hF
            refine ha_y 4 hF rfl rfl rfl (wn_none rfl) (.inr hSS) (yl_move hF rfl rfl) ?_
            clear hF; intro a hF
            refine ha_y 5 hF rfl rfl rfl (wn_none rfl) (.inr hSS) (yl_move hF rfl rfl) ?_
            clear hF; intro a hF
            have hlt_hx363 : j < (G329).length := by first | omega | (simp; done) | (simp; omega)
            obtain ⟨x363, hx363⟩ := get_some hlt_hx363
            refine ha_y 6 hF rfl rfl rfl (wn_none rfl) (.inr hSS) (yl_indexAddr hF rfl rfl rfl (fun _ => run_idx' sl26 sz44 (hS.rdRo 5 rfl) hlt_hx363)) ?_
            clear hF; intro a hF
            refine ha_l 3 hF rfl rfl rfl (wn_none rfl) hSS (yl_loadEl (rs := [.int .i64 (x362.f0), .int .i64 (x362.f1)]) hF rfl rfl ag44 sz44 rfl (fun _ h => rd_cells (enc := enc44) (Sat.rdRow h 0 rfl) enc44_len hx362)) ?_
            clear hF; intro a hF
            refine ha_l 7 hF rfl rfl rfl (wn_none rfl) hSS (yl_loadEl (rs := [.int .i64 (x363.f0), .int .i64 (x363.f1)]) hF rfl rfl ag44 sz44 rfl (fun _ h => rd_cells (enc := enc44) (Sat.rdRo h 1 rfl) enc44_len hx363)) ?_
            clear hF; intro a hF
            refine ha_y 8 hF rfl rfl rfl (wn_none rfl) (.inr hSS) (yl_binA hF rfl rfl rfl (fun w => run_eqGuard_agg w _ _ _ _ _ _ hm44) (fun w => nes44 _ _ _ _ w)) ?_
            clear hF; intro a hF
            replace hF := fr_set (b' := false) hF (by have h9 := Option.some.inj ((hx362.symm.trans (rl_get (by omega) (by omega) hk1 hk2)).trans hx363); rw [h9]; simp)
            refine ha_done (by kernel_rfl) ?_ _
            refine then_n ?_
            refine c_cond_f hF rfl ?_
            refine wp_skip ?_
            refine then_n ?_
            refine c_region ?_
            refine seq_yl hF (wn_none rfl) rfl rfl (yl_move hF rfl rfl) ?_
            clear hF; intro a hF
            refine seq_yl hF (wn_none rfl) rfl rfl (yl_bin hF rfl rfl rfl rfl (fun _ => run_inc (by omega))) ?_
            clear hF; intro a hF
            refine seq_yl hF (wn_none rfl) rfl rfl (yl_assign hF rfl rfl) ?_
            clear hF; intro a hF
            refine wpList_nil ?_
            refine inb_n ?_
            refine then_n ?_
            refine c_region ?_
            refine seq_yl hF (wn_none rfl) rfl rfl (yl_move hF rfl rfl) ?_
            clear hF; intro a hF
            refine seq_yl hF (wn_none rfl) rfl rfl (yl_bin hF rfl rfl rfl rfl (fun _ => run_inc (by omega))) ?_
            clear hF; intro a hF
            refine seq_yl hF (wn_none rfl) rfl rfl (yl_assign hF rfl rfl) ?_
            clear hF; intro a hF
            refine wpList_nil ?_
            refine then_n ?_
            exact ⟨_, (by omega), j + 1, k + 1, rfl, ⟨by omega, by omega, by omega⟩, hF.to [4, 5, 6, 7, 9, 12, 13] rfl, (hS.sub [0, 1, 2, 3, 4, 5] (by decide) (by first | rfl | simp) (by simp))⟩
          · first | (replace hc361 := of_decide_eq_false hc361) | (replace hc361 := of_decide_eq_true (bnot_f hc361)) | (subst hc361) | (replace hc361 := bnot_f hc361; subst hc361) | (replace hc361 := bnot_f hc361) | skip
            refine wp_skip ?_
            refine inb_n ?_
            refine then_n ?_
            refine c_region ?_
            refine seq_yl hF (wn_none rfl) rfl rfl (yl_move hF rfl rfl) ?_
            clear hF; intro a hF
            refine seq_yl hF (wn_none rfl) rfl rfl (yl_bin hF rfl rfl rfl rfl (fun _ => run_inc (by omega))) ?_
            clear hF; intro a hF
            refine seq_yl hF (wn_none rfl) rfl rfl (yl_assign hF rfl rfl) ?_
            clear hF; intro a hF
            refine wpList_nil ?_
            refine then_n ?_
            exact ⟨_, (by omega), j + 1, k, rfl, ⟨by omega, by omega, by omega⟩, hF.to [4, 5, 6, 7, 9, 12, 13] rfl, (hS.sub [0, 1, 2, 3, 4, 5] (by decide) (by first | rfl | simp) (by simp))⟩
        · first | (replace hc357 := of_decide_eq_false hc357) | (replace hc357 := of_decide_eq_true (bnot_f hc357)) | (subst hc357) | (replace hc357 := bnot_f hc357; subst hc357) | (replace hc357 := bnot_f hc357) | skip
          refine wp_exit ?_
          refine then_x ?_
          refine then_x ?_
          refine inb_x ?_
          refine then_n ?_
          refine c_seq ?_
          refine c_region ?_
          refine seq_wp (wn_none rfl) (wp_call (vs := []) hF rfl rfl rfl rfl cf22 (awake_any _) ?_)
          clear hF; rintro _ w ⟨rfl, hS1⟩ a hF
          replace hS := hS.callB hS1 rfl; clear hS1
          refine seq_yl hF (wn_none rfl) rfl rfl (yl_assign hF rfl rfl) ?_
          clear hF; intro a hF
          refine wpList_nil ?_
          refine then_n ?_
          refine wp_ret ?_
          refine ret_t hF rfl rfl ?_
          exact ⟨_, rfl, rfl, (hS.sub [] (by decide) (by first | rfl | simp) (by simp))⟩

end Go.Proofs.Ytffaminjbcfojaa

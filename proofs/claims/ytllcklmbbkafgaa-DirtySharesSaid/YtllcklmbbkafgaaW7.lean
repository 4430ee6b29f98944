/- walks, printed by wip/gen -/
import Derived.Test.YtllcklmbbkafgaaW6
namespace Go.Proofs.Ytllcklmbbkafgaa
open Go.RowKit
set_option linter.unusedVariables false
set_option linter.unusedSimpArgs false

theorem shares_any (v : Value) (L : List Int) (w0 : World) (hv : Rd w0 1 v (L).length (cells encI (L))) (hL : L.length ≤ maxLen) :
    Fn Try.prog 4 #[v] w0 (fun v w' => v = .bool true ∧ Sat w0 w' []) := by
  simp only [maxLen] at hL
  obtain ⟨Av, cv, rfl⟩ := Rd.form hv
  refine c_enter (N := 118) (l := [_]) Try.func4 rfl rfl (fun a w hF hS => ?_)
  replace hS := hS.addRo hv
  refine c_seq ?_
  refine c_region ?_
  refine seq_yl hF (wn_none rfl) rfl rfl (yl_assign hF rfl rfl) ?_
  clear hF; intro a hF
  refine wpList_nil ?_
  refine then_n ?_
  refine c_seq ?_
  refine c_region ?_
  refine seq_yl hF (wn_none rfl) rfl rfl (yl_move hF rfl rfl) ?_
  clear hF; intro a hF
  refine seq_yl hF (wn_none rfl) rfl rfl (yl_build (parts := [(0, .tmp 13)]) (vs := [(0, _)]) (cs := [_, _]) hF bd25 rfl rfl rfl rfl) ?_
  clear hF; intro a hF
  refine seq_wp (wn_none rfl) (wp_box (cs := #[_, _]) hF hS rfl rfl rfl rfl rfl ?_)
  clear hF hS; intro a w g134 hF hS
  refine seq_yl hF (wn_none rfl) rfl rfl (yl_assign hF rfl rfl) ?_
  clear hF; intro a hF
  refine wpList_nil ?_
  refine then_n ?_
  refine c_seq ?_
  refine c_region ?_
  refine seq_yl hF (wn_none rfl) rfl rfl (yl_move hF rfl rfl) ?_
  clear hF; intro a hF
  refine seq_wp (wn_none rfl) (wp_call (vs := [_, _]) hF rfl rfl rfl rfl cf7 (next_any _ _ _ _ _ _ _ (0 : Nat) (4 : Int) (by omega) hS (by omega) (by omega)) ?_)
  clear hF; rintro _ w ⟨r135, it136, rfl, hb137, hiit136, hS1⟩ a hF; replace hS := hS1; clear hS1
  refine seq_yl hF (wn_none rfl) rfl rfl (yl_bin hF rfl rfl rfl rfl (fun _ => run_add (by refine ⟨?_, ?_⟩ <;> omega))) ?_
  clear hF; intro a hF
  refine seq_yl hF (wn_none rfl) rfl rfl (yl_assign hF rfl rfl) ?_
  clear hF; intro a hF
  refine wpList_nil ?_
  refine then_n ?_
  refine c_seq ?_
  refine c_region ?_
  refine seq_yl hF (wn_none rfl) rfl rfl (yl_move hF rfl rfl) ?_
  clear hF; intro a hF
  refine seq_yl hF (wn_none rfl) rfl rfl (yl_move hF rfl rfl) ?_
  clear hF; intro a hF
  refine seq_wp (wn_none rfl) (wp_call (vs := [_, _]) hF rfl rfl rfl rfl cf7 (next_any _ _ _ _ _ _ _ (it136 : Nat) (30 : Int) (by omega) hS (by omega) (by omega)) ?_)
  clear hF; rintro _ w ⟨r138, it139, rfl, hb140, hiit139, hS1⟩ a hF; replace hS := hS1; clear hS1
  refine seq_yl hF (wn_none rfl) rfl rfl (yl_bin hF rfl rfl rfl rfl (fun _ => run_add (by refine ⟨?_, ?_⟩ <;> omega))) ?_
  clear hF; intro a hF
  refine seq_wp (wn_none rfl) (wp_call (vs := [_, _]) hF rfl rfl rfl rfl cf9 (new_ok (((1 : Int) + (r135))) (((1 : Int) + (r138))) _ (by omega)) ?_)
  clear hF; rintro _ w ⟨v141, rfl, hS1⟩ a hF
  replace hS := hS.callB hS1 rfl; clear hS1
  obtain ⟨Av141, cv141, rfl⟩ := hS.form 0 rfl
  refine seq_yl hF (wn_none rfl) rfl rfl (yl_move hF rfl rfl) ?_
  clear hF; intro a hF
  refine seq_yl hF (wn_none rfl) rfl rfl (yl_extract hF rfl rfl rfl) ?_
  clear hF; intro a hF
  refine seq_yl hF (wn_none rfl) rfl rfl (yl_extract hF rfl rfl rfl) ?_
  clear hF; intro a hF
  refine seq_wp (wn_none rfl) (wp_alloc (cs := #[_, _, _]) hF hS rfl rfl rfl zr27 rfl ?_)
  clear hF hS; intro a w g142 hF hS
  refine seq_wp (wn_none rfl) (wp_store (cs' := #[_, _, _]) hF hS rfl rfl rfl rfl 0 rfl sz27 (by simp [Value.cells, Value.oneCell']) (by simp [Value.cells]) rfl ?_)
  clear hF hS; intro a w hF hS
  refine seq_yl hF (wn_none rfl) rfl rfl (yl_assign hF rfl rfl) ?_
  clear hF; intro a hF
  refine wpList_nil ?_
  refine then_n ?_
  refine c_seq ?_
  refine c_seq ?_
  refine c_region ?_
  refine seq_yl hF (wn_none rfl) rfl rfl (yl_move hF rfl rfl) ?_
  clear hF; intro a hF
  refine seq_yl hF (wn_none rfl) rfl rfl (yl_bin hF rfl rfl rfl rfl (fun _ => run_neq)) ?_
  clear hF; intro a hF
  replace hF := fr_set (b' := false) hF (by decide)
  refine seq_yl hF (wn_none rfl) rfl rfl (yl_move hF rfl rfl) ?_
  clear hF; intro a hF
  refine seq_yl hF (wn_t hF rfl rfl rfl rfl) rfl rfl (yl_fieldAddr hF rfl rfl (fun w => by kernel_rfl : ∀ w, (Instr.fieldAt 27 (.pointer (some ⟨g142, 0, none⟩)) 0).run Try.prog w = .ok (.pointer (some ⟨g142, 0, none⟩)) w)) ?_
  clear hF; intro a hF
  refine seq_yl hF (wn_t hF rfl rfl rfl rfl) rfl rfl (yl_load (fun _ h => h ▸ hS) hF rfl rfl 0 rfl ag22 rfl) ?_
  clear hF; intro a hF
  refine seq_yl hF (wn_t hF rfl rfl rfl rfl) rfl rfl (yl_len hF rfl rfl (fun _ => run_lenRd sl22 (hS.rdRow 1 rfl))) ?_
  clear hF; intro a hF
  refine seq_yl hF (wn_t hF rfl rfl rfl rfl) rfl rfl (yl_move hF rfl rfl) ?_
  clear hF; intro a hF
  refine seq_yl hF (wn_t hF rfl rfl rfl rfl) rfl rfl (yl_bin hF rfl rfl rfl rfl (fun _ => run_neq)) ?_
  clear hF; intro a hF
  replace hF := fr_set (b' := false) hF (by simp; omega)
  refine seq_yl hF (wn_none rfl) rfl rfl (yl_pick (u := _) (v := undef) hF rfl rfl (fun h => by cases h) (fun _ => rfl)) ?_
  clear hF; intro a hF
  refine wpList_nil ?_
  refine then_n ?_
  refine c_cond_f hF rfl ?_
  refine wp_skip ?_
  refine then_n ?_
  refine c_seq ?_
  refine c_seq ?_
  refine c_region ?_
  refine seq_yl hF (wn_none rfl) rfl rfl (yl_move hF rfl rfl) ?_
  clear hF; intro a hF
  replace hS := (hS.sub [2, 3, 0, 1] (by decide) (by first | rfl | simp) (by simp))
  refine seq_wp (wn_none rfl) (wp_call (vs := [_, _]) hF rfl rfl rfl rfl cf7 (next_any _ _ _ _ _ _ _ (it139 : Nat) (10 : Int) (by omega) hS (by omega) (by omega)) ?_)
  clear hF; rintro _ w ⟨r143, it144, rfl, hb145, hiit144, hS1⟩ a hF; replace hS := hS1; clear hS1
  refine seq_yl hF (wn_none rfl) rfl rfl (yl_assign hF rfl rfl) ?_
  clear hF; intro a hF
  refine wpList_nil ?_
  refine then_n ?_
  refine wp_block ?_
  refine c_loop (fun m a w => ∃ (kk : Int) (it : Nat) (E : List Int) (q : Int) (AvE : Option Addr) (cvE : Nat), m = kk.toNat ∧ (0 ≤ kk ∧ kk ≤ 9 ∧ it ≤ L.length ∧ chkF E (((1 : Int) + (r138))) q = true ∧ (E.length : Int) = ((1 : Int) + (r135))) ∧ Fr 118 a [(3, .pointer (some ⟨g134, 0, none⟩)), (4, .int .i64 (((1 : Int) + (r135)))), (5, .pointer (some ⟨g142, 0, none⟩)), (7, .int .i64 (kk))] ∧ Sat w0 w (.box g134 25 #[.slice Av (L).length cv, .int .i64 ((it : Nat) : Int)] :: .ro 1 (.slice Av (L).length cv) (L).length (cells encI (L)) :: .box g142 27 #[.slice AvE (E).length cvE, .int .i64 ((((1 : Int) + (r138)))), .int .i64 (q)] :: .row 3 1 (.slice AvE (E).length cvE) (E).length (cells encI (E)) :: [])) (((r143)).toNat) ?_ ?_
  · exact ⟨(r143), it144, (List.replicate ((((1 : Int) + (r135)))).toNat (0 : Int)), (((1 : Int) + (r138))), Av141, cv141, rfl, ⟨by omega, by omega, by omega, chk_new (by omega) (by omega), by simp; omega⟩, hF.to [3, 4, 5, 7] rfl, (hS.sub [0, 1, 2, 3] (by decide) (by first | rfl | simp) (by simp))⟩
  · clear hF hS a w; rintro m a w ⟨kk, it, E, q, AvE, cvE, rfl, hinv, hF, hS⟩
    obtain ⟨hk0, hk9, hit, hchk, hEN⟩ := hinv
    have hE4 := (CI_of hchk).2.2.2.2
    refine c_seq ?_
    refine c_seq ?_
    refine c_region ?_
    refine seq_yl hF (wn_none rfl) rfl rfl (yl_move hF rfl rfl) ?_
    clear hF; intro a hF
    refine seq_yl hF (wn_none rfl) rfl rfl (yl_bin hF rfl rfl rfl rfl (fun _ => run_gtr)) ?_
    clear hF; intro a hF
    refine wpList_nil ?_
    refine then_n ?_
    refine c_cond hF rfl (fun hc146 => ?_) (fun hc146 => ?_)
    · first | (replace hc146 := of_decide_eq_true hc146) | (replace hc146 := of_decide_eq_false (bnot_t hc146)) | (subst hc146) | (replace hc146 := bnot_t hc146; subst hc146) | (replace hc146 := bnot_t hc146) | skip
      refine wp_skip ?_
      refine then_n ?_
      refine c_seq ?_
      refine wp_block ?_
      refine c_seq ?_
      refine ha_startS hS [2] 10 (by kernel_rfl) ?_; clear hS; intro w hS
      have hSS := hS.sub [2] (by decide) rfl (by simp)
      refine ha_yl 1 hF rfl rfl rfl (by kernel_rfl) (by kernel_rfl) (by kernel_rfl) (by decide) (fun _ _ _ h => h) (wn_none rfl) (.inr hSS) (yl_move hF rfl rfl) ?_
      clear hF; intro a hF
      refine ha_yl 2 hF rfl rfl rfl (by kernel_rfl) (by kernel_rfl) (by kernel_rfl) (by decide) (fun _ _ _ h => h) (wn_none rfl) (.inr hSS) (yl_move hF rfl rfl) ?_
      clear hF; intro a hF
      refine ha_yl 4 hF rfl rfl rfl (by kernel_rfl) (by kernel_rfl) (by kernel_rfl) (by decide) (fun _ _ _ h => h) (wn_none rfl) (.inr hSS) (yl_move hF rfl rfl) ?_
      clear hF; intro a hF
      refine ha_ld 0 hF rfl rfl rfl (by kernel_rfl) (by kernel_rfl) (by kernel_rfl) (by decide) (by kernel_rfl) (by kernel_rfl) (fun _ _ _ h => h) (wn_none rfl) hSS (yl_loadK (rs := [_, _, _]) (fun _ h => h) hF rfl rfl 0 rfl ag27 sz27 rfl rfl) ?_
      clear hF; intro a hF
      refine ha_one 3 (by kernel_rfl) rfl (wn_none rfl) (wp_call (vs := [_, _]) hF rfl rfl rfl rfl cf7 (next_any _ _ _ _ _ _ _ (it : Nat) (((1 : Int) + (r135))) (by omega) hS (by omega) (by omega)) ?_)
      clear hF; rintro _ w ⟨r147, it148, rfl, hb149, hiit148, hS1⟩ a hF; replace hS := hS1; clear hS1
      replace hSS := hS.sub [2] (by decide) rfl (by simp)
      refine ⟨.inr hSS, ?_⟩
      refine ha_one 5 (by kernel_rfl) rfl (wn_none rfl) (wp_call (vs := [_, _]) hF rfl rfl rfl rfl cf7 (next_any _ _ _ _ _ _ _ (it148 : Nat) (9 : Int) (by omega) hS (by omega) (by omega)) ?_)
      clear hF; rintro _ w ⟨r150, it151, rfl, hb152, hiit151, hS1⟩ a hF; replace hS := hS1; clear hS1
      replace hSS := hS.sub [2] (by decide) rfl (by simp)
      refine ⟨.inr hSS, ?_⟩
      refine ha_one 6 (by kernel_rfl) rfl (wn_none rfl) (wp_call (vs := [_, _, _]) hF rfl rfl rfl rfl cf11 (comp_any _ E ((((1 : Int) + (r138)))) (q) (r147) (r150) _ (hS.rdRow 3 rfl) (by first | omega | (simp; done) | (simp; omega) | (rw [stF_len]; first | omega | (simp; done) | (simp; omega)))) ?_)
      clear hF; rintro _ w ⟨v153, rfl, hS1⟩ a hF
      replace hS := hS.callB hS1 rfl; clear hS1
      obtain ⟨Av153, cv153, rfl⟩ := hS.form 0 rfl
      replace hSS := hS.sub [3] (by decide) rfl (by simp)
      refine ⟨.inr hSS, ?_⟩
      refine ha_yl 7 hF rfl rfl rfl (by kernel_rfl) (by kernel_rfl) (by kernel_rfl) (by decide) (fun _ _ _ h => h) (wn_none rfl) (.inr hSS) (yl_move hF rfl rfl) ?_
      clear hF; intro a hF
      refine ha_yl 8 hF rfl rfl rfl (by kernel_rfl) (by kernel_rfl) (by kernel_rfl) (by decide) (fun _ _ _ h => h) (wn_none rfl) (.inr hSS) (yl_extract hF rfl rfl rfl) ?_
      clear hF; intro a hF
      refine ha_yl 9 hF rfl rfl rfl (by kernel_rfl) (by kernel_rfl) (by kernel_rfl) (by decide) (fun _ _ _ h => h) (wn_none rfl) (.inr hSS) (yl_extract hF rfl rfl rfl) ?_
      clear hF; intro a hF
      refine ha_one 10 (by kernel_rfl) rfl (wn_none rfl) (wp_store (cs' := #[_, _, _]) hF hS rfl rfl rfl rfl 3 rfl sz27 (by simp [Value.cells, Value.oneCell']) (by simp [Value.cells]) rfl ?_)
      clear hF hS; intro a w hF hS
      refine ⟨.inl (by kernel_rfl), ?_⟩
      refine ha_yl 11 hF rfl rfl rfl (by kernel_rfl) (by kernel_rfl) (by kernel_rfl) (by decide) (fun _ _ _ h => h) (wn_none rfl) (.inl (by kernel_rfl)) (yl_assign hF rfl rfl) ?_
      clear hF; intro a hF
      refine ha_done (by kernel_rfl) ?_ _
      refine then_n ?_
      refine c_seq ?_
      refine c_region ?_
      refine seq_yl hF (wn_none rfl) rfl rfl (yl_move hF rfl rfl) ?_
      clear hF; intro a hF
      refine seq_yl hF (wn_none rfl) rfl rfl (yl_bin hF rfl rfl rfl rfl (fun _ => run_neq)) ?_
      clear hF; intro a hF
      replace hF := fr_set (b' := false) hF (by rw [err_0 hchk (by omega)]; rfl)
      refine seq_yl hF (wn_none rfl) rfl rfl (yl_move hF rfl rfl) ?_
      clear hF; intro a hF
      refine seq_yl hF (wn_t hF rfl rfl rfl rfl) rfl rfl (yl_fieldAddr hF rfl rfl (fun w => by kernel_rfl : ∀ w, (Instr.fieldAt 27 (.pointer (some ⟨g142, 0, none⟩)) 0).run Try.prog w = .ok (.pointer (some ⟨g142, 0, none⟩)) w)) ?_
      clear hF; intro a hF
      refine seq_yl hF (wn_t hF rfl rfl rfl rfl) rfl rfl (yl_load (fun _ h => h ▸ hS) hF rfl rfl 3 rfl ag22 rfl) ?_
      clear hF; intro a hF
      refine seq_yl hF (wn_t hF rfl rfl rfl rfl) rfl rfl (yl_len hF rfl rfl (fun _ => run_lenRd sl22 (hS.rdRow 0 rfl))) ?_
      clear hF; intro a hF
      refine seq_yl hF (wn_t hF rfl rfl rfl rfl) rfl rfl (yl_move hF rfl rfl) ?_
      clear hF; intro a hF
      refine seq_yl hF (wn_t hF rfl rfl rfl rfl) rfl rfl (yl_bin hF rfl rfl rfl rfl (fun _ => run_neq)) ?_
      clear hF; intro a hF
      replace hF := fr_set (b' := false) hF (by rw [stF_len, decide_eq_false_iff_not]; omega)
      refine seq_yl hF (wn_none rfl) rfl rfl (yl_pick (u := _) (v := undef) hF rfl rfl (fun h => by cases h) (fun _ => rfl)) ?_
      clear hF; intro a hF
      refine wpList_nil ?_
      refine then_n ?_
      refine c_cond_f hF rfl ?_
      refine wp_skip ?_
      refine inb_n ?_
      refine then_n ?_
      refine c_region ?_
      refine seq_yl hF (wn_none rfl) rfl rfl (yl_move hF rfl rfl) ?_
      clear hF; intro a hF
      refine seq_yl hF (wn_none rfl) rfl rfl (yl_bin hF rfl rfl rfl rfl (fun _ => run_sub (by refine ⟨?_, ?_⟩ <;> omega))) ?_
      clear hF; intro a hF
      refine seq_yl hF (wn_none rfl) rfl rfl (yl_assign hF rfl rfl) ?_
      clear hF; intro a hF
      refine wpList_nil ?_
      refine then_n ?_
      exact ⟨_, (by omega), (((kk) - (1 : Int))), it151, (stF E ((((1 : Int) + (r138)))) (q) (r147) (r150)).1, ((stF E ((((1 : Int) + (r138)))) (q) (r147) (r150)).2), Av153, cv153, rfl, ⟨by omega, by omega, by omega, chk_st hchk, by rw [stF_len]; exact hEN⟩, hF.to [3, 4, 5, 7] rfl, (hS.sub [1, 2, 3, 0] (by decide) (by first | rfl | simp) (by simp))⟩
    · first | (replace hc146 := of_decide_eq_false hc146) | (replace hc146 := of_decide_eq_true (bnot_f hc146)) | (subst hc146) | (replace hc146 := bnot_f hc146; subst hc146) | (replace hc146 := bnot_f hc146) | skip
      refine wp_exit ?_
      refine then_x ?_
      refine then_x ?_
      refine inb_x ?_
      refine then_n ?_
      refine c_seq ?_
      refine c_region ?_
      refine seq_yl hF (wn_none rfl) rfl rfl (yl_move hF rfl rfl) ?_
      clear hF; intro a hF
      refine seq_wp (wn_none rfl) (wp_call (vs := [_, _]) hF rfl rfl rfl rfl cf7 (next_any _ _ _ _ _ _ _ (it : Nat) (65 : Int) (by omega) hS (by omega) (by omega)) ?_)
      clear hF; rintro _ w ⟨r154, it155, rfl, hb156, hiit155, hS1⟩ a hF; replace hS := hS1; clear hS1
      refine seq_yl hF (wn_none rfl) rfl rfl (yl_assign hF rfl rfl) ?_
      clear hF; intro a hF
      refine seq_yl hF (wn_none rfl) rfl rfl (yl_assign hF rfl rfl) ?_
      clear hF; intro a hF
      refine wpList_nil ?_
      refine then_n ?_
      refine c_seq ?_
      refine c_seq ?_
      refine c_region ?_
      refine seq_yl hF (wn_none rfl) rfl rfl (yl_assign hF rfl rfl) ?_
      clear hF; intro a hF
      refine wpList_nil ?_
      refine then_n ?_
      refine wp_block ?_
      refine c_loop (fun m a w => ∃ (i : Nat) (t : Int), m = E.length - i ∧ ((i : Int) ≤ ((1 : Int) + (r135)) ∧ t = shSum E (((1 : Int) + (r138))) q (r154) i) ∧ Fr 118 a [(4, .int .i64 (((1 : Int) + (r135)))), (5, .pointer (some ⟨g142, 0, none⟩)), (8, .int .i64 (r154)), (9, .int .i64 (t)), (10, .int .i64 ((i : Nat) : Int))] ∧ Sat w0 w (.box g142 27 #[.slice AvE (E).length cvE, .int .i64 ((((1 : Int) + (r138)))), .int .i64 (q)] :: .row 3 1 (.slice AvE (E).length cvE) (E).length (cells encI (E)) :: [])) (E.length - 0) ?_ ?_
      · exact ⟨0, 0, rfl, ⟨by omega, rfl⟩, hF.to [4, 5, 8, 9, 10] rfl, (hS.sub [2, 3] (by decide) (by first | rfl | simp) (by simp))⟩
      · clear hF hS a w; rintro m a w ⟨i, t, rfl, hinv, hF, hS⟩
        obtain ⟨hiN, hts⟩ := hinv
        have hti := shSum_in (p := (((1 : Int) + (r138)))) (q := q) (l := (r154)) hchk (by omega) i (by omega)
        rw [← hts] at hti
        refine c_seq ?_
        refine c_seq ?_
        refine c_region ?_
        refine seq_yl hF (wn_none rfl) rfl rfl (yl_move hF rfl rfl) ?_
        clear hF; intro a hF
        refine seq_yl hF (wn_none rfl) rfl rfl (yl_move hF rfl rfl) ?_
        clear hF; intro a hF
        refine seq_yl hF (wn_none rfl) rfl rfl (yl_bin hF rfl rfl rfl rfl (fun _ => run_lss)) ?_
        clear hF; intro a hF
        refine wpList_nil ?_
        refine then_n ?_
        refine c_cond hF rfl (fun hc157 => ?_) (fun hc157 => ?_)
        · first | (replace hc157 := of_decide_eq_true hc157) | (replace hc157 := of_decide_eq_false (bnot_t hc157)) | (subst hc157) | (replace hc157 := bnot_t hc157; subst hc157) | (replace hc157 := bnot_t hc157) | skip
          refine wp_skip ?_
          refine then_n ?_
          refine c_seq ?_
          refine wp_block ?_
          refine c_seq ?_
          refine c_region ?_
          refine seq_yl hF (wn_none rfl) rfl rfl (yl_loadK (rs := [_, _, _]) (fun _ h => h ▸ hS) hF rfl rfl 0 rfl ag27 sz27 rfl rfl) ?_
          clear hF; intro a hF
          refine seq_yl hF (wn_none rfl) rfl rfl (yl_move hF rfl rfl) ?_
          clear hF; intro a hF
          refine seq_yl hF (wn_none rfl) rfl rfl (yl_move hF rfl rfl) ?_
          clear hF; intro a hF
          refine seq_wp (wn_none rfl) (wp_call (vs := [_, _, _]) hF rfl rfl rfl rfl cf20 (share_any _ E ((((1 : Int) + (r138)))) (q) ((i : Nat) : Int) (r154) _ (hS.rdRow 1 rfl) (by first | omega | (simp; done) | (simp; omega) | (rw [stF_len]; first | omega | (simp; done) | (simp; omega)))) ?_)
          clear hF; rintro _ w ⟨rfl, hS1⟩ a hF
          replace hS := hS.callB hS1 rfl; clear hS1
          refine seq_yl hF (wn_none rfl) rfl rfl (yl_assign hF rfl rfl) ?_
          clear hF; intro a hF
          refine wpList_nil ?_
          refine then_n ?_
          refine c_seq ?_
          refine c_seq ?_
          refine c_region ?_
          have hsb := sh_bounds (p := (((1 : Int) + (r138)))) (q := q) (l := (r154)) (k := i) hchk (by omega) (by omega)
          refine seq_yl hF (wn_none rfl) rfl rfl (yl_move hF rfl rfl) ?_
          clear hF; intro a hF
          refine seq_yl hF (wn_none rfl) rfl rfl (yl_move hF rfl rfl) ?_
          clear hF; intro a hF
          refine seq_yl hF (wn_none rfl) rfl rfl (yl_min2 hF rfl rfl rfl) ?_
          clear hF; intro a hF
          refine seq_yl hF (wn_none rfl) rfl rfl (yl_bin hF rfl rfl rfl rfl (fun _ => run_lss)) ?_
          clear hF; intro a hF
          replace hF := fr_set (b' := false) hF (by rw [decide_eq_false_iff_not]; omega)
          refine seq_yl hF (wn_none rfl) rfl rfl (yl_move hF rfl rfl) ?_
          clear hF; intro a hF
          refine seq_yl hF (wn_t hF rfl rfl rfl rfl) rfl rfl (yl_move hF rfl rfl) ?_
          clear hF; intro a hF
          refine seq_yl hF (wn_t hF rfl rfl rfl rfl) rfl rfl (yl_move hF rfl rfl) ?_
          clear hF; intro a hF
          refine seq_yl hF (wn_t hF rfl rfl rfl rfl) rfl rfl (yl_bin hF rfl rfl rfl rfl (fun _ => run_gtr)) ?_
          clear hF; intro a hF
          replace hF := fr_set (b' := false) hF (by rw [decide_eq_false_iff_not]; omega)
          refine seq_yl hF (wn_none rfl) rfl rfl (yl_pick (u := _) (v := undef) hF rfl rfl (fun h => by cases h) (fun _ => rfl)) ?_
          clear hF; intro a hF
          refine wpList_nil ?_
          refine then_n ?_
          refine c_cond_f hF rfl ?_
          refine wp_skip ?_
          refine then_n ?_
          refine c_seq ?_
          refine c_region ?_
          refine seq_yl hF (wn_none rfl) rfl rfl (yl_move hF rfl rfl) ?_
          clear hF; intro a hF
          refine seq_yl hF (wn_none rfl) rfl rfl (yl_move hF rfl rfl) ?_
          clear hF; intro a hF
          refine seq_yl hF (wn_none rfl) rfl rfl (yl_bin hF rfl rfl rfl rfl (fun _ => run_add (by refine ⟨?_, ?_⟩ <;> omega))) ?_
          clear hF; intro a hF
          refine seq_yl hF (wn_none rfl) rfl rfl (yl_assign hF rfl rfl) ?_
          clear hF; intro a hF
          refine wpList_nil ?_
          refine then_n ?_
          refine c_seq ?_
          refine c_region ?_
          refine seq_yl hF (wn_none rfl) rfl rfl (yl_assign hF rfl rfl) ?_
          clear hF; intro a hF
          refine wpList_nil ?_
          refine then_n ?_
          refine wp_block ?_
          refine c_loop (fun m a w => ∃ (k : Nat), m = E.length - k ∧ ((k : Int) ≤ ((1 : Int) + (r135))) ∧ Fr 118 a [(4, .int .i64 (((1 : Int) + (r135)))), (5, .pointer (some ⟨g142, 0, none⟩)), (8, .int .i64 (r154)), (9, .int .i64 (((t) + ((shareF E ((((1 : Int) + (r138)))) (q) ((i : Nat) : Int) (r154)))))), (10, .int .i64 ((i : Nat) : Int)), (11, .int .i64 ((shareF E ((((1 : Int) + (r138)))) (q) ((i : Nat) : Int) (r154)))), (12, .int .i64 ((k : Nat) : Int))] ∧ Sat w0 w (.box g142 27 #[.slice AvE (E).length cvE, .int .i64 ((((1 : Int) + (r138)))), .int .i64 (q)] :: .row 3 1 (.slice AvE (E).length cvE) (E).length (cells encI (E)) :: [])) (E.length - 0) ?_ ?_
          · exact ⟨0, rfl, by omega, hF.to [4, 5, 8, 9, 10, 11, 12] rfl, (hS.sub [0, 1] (by decide) (by first | rfl | simp) (by simp))⟩
          · clear hF hS a w; rintro m a w ⟨k, rfl, hinv, hF, hS⟩
            refine c_seq ?_
            refine c_seq ?_
            refine c_region ?_
            refine seq_yl hF (wn_none rfl) rfl rfl (yl_move hF rfl rfl) ?_
            clear hF; intro a hF
            refine seq_yl hF (wn_none rfl) rfl rfl (yl_move hF rfl rfl) ?_
            clear hF; intro a hF
            refine seq_yl hF (wn_none rfl) rfl rfl (yl_bin hF rfl rfl rfl rfl (fun _ => run_lss)) ?_
            clear hF; intro a hF
            refine wpList_nil ?_
            refine then_n ?_
            refine c_cond hF rfl (fun hc158 => ?_) (fun hc158 => ?_)
            · first | (replace hc158 := of_decide_eq_true hc158) | (replace hc158 := of_decide_eq_false (bnot_t hc158)) | (subst hc158) | (replace hc158 := bnot_t hc158; subst hc158) | (replace hc158 := bnot_t hc158) | skip
              refine wp_skip ?_
              refine then_n ?_
              refine c_seq ?_
              refine wp_block ?_
              refine c_seq ?_
              refine ha_startS hS [0, 1] 19 (by kernel_rfl) ?_; clear hS; intro w hS
              have hSS := hS.sub [0, 1] (by decide) rfl (by simp)
              refine ha_yl 0 hF rfl rfl rfl (by kernel_rfl) (by kernel_rfl) (by kernel_rfl) (by decide) (fun _ _ _ h => h) (wn_none rfl) (.inr hSS) (yl_fieldAddr hF rfl rfl (fun w => by kernel_rfl : ∀ w, (Instr.fieldAt 27 (.pointer (some ⟨g142, 0, none⟩)) 0).run Try.prog w = .ok (.pointer (some ⟨g142, 0, none⟩)) w)) ?_
              clear hF; intro a hF
              refine ha_yl 2 hF rfl rfl rfl (by kernel_rfl) (by kernel_rfl) (by kernel_rfl) (by decide) (fun _ _ _ h => h) (wn_none rfl) (.inr hSS) (yl_move hF rfl rfl) ?_
              clear hF; intro a hF
              refine ha_yl 5 hF rfl rfl rfl (by kernel_rfl) (by kernel_rfl) (by kernel_rfl) (by decide) (fun _ _ _ h => h) (wn_none rfl) (.inr hSS) (yl_fieldAddr hF rfl rfl (fun w => by kernel_rfl : ∀ w, (Instr.fieldAt 27 (.pointer (some ⟨g142, 0, none⟩)) 0).run Try.prog w = .ok (.pointer (some ⟨g142, 0, none⟩)) w)) ?_
              clear hF; intro a hF
              refine ha_yl 7 hF rfl rfl rfl (by kernel_rfl) (by kernel_rfl) (by kernel_rfl) (by decide) (fun _ _ _ h => h) (wn_none rfl) (.inr hSS) (yl_move hF rfl rfl) ?_
              clear hF; intro a hF
              refine ha_ld 1 hF rfl rfl rfl (by kernel_rfl) (by kernel_rfl) (by kernel_rfl) (by decide) (by kernel_rfl) (by kernel_rfl) (fun _ _ _ h => h) (wn_none rfl) hSS (yl_load (fun _ h => h) hF rfl rfl 0 rfl ag22 rfl) ?_
              clear hF; intro a hF
              have hlt_hx159 : i < (E).length := by first | omega | (simp; done) | (simp; omega)
              obtain ⟨ad160, rfl⟩ := rd_some (hS.rdRow 1 rfl) hlt_hx159
              obtain ⟨x159, hx159⟩ := get_some hlt_hx159
              refine ha_yl 3 hF rfl rfl rfl (by kernel_rfl) (by kernel_rfl) (by kernel_rfl) (by decide) (fun _ _ _ h => h) (wn_none rfl) (.inr hSS) (yl_indexAddr hF rfl rfl rfl (fun _ => run_idx' sl22 sz3 (hS.rdRow 1 rfl) hlt_hx159)) ?_
              clear hF; intro a hF
              refine ha_ld 4 hF rfl rfl rfl (by kernel_rfl) (by kernel_rfl) (by kernel_rfl) (by decide) (by kernel_rfl) (by kernel_rfl) (fun _ _ _ h => h) (wn_none rfl) hSS (yl_loadAt hF rfl rfl ag3 (fun _ h => rd_cell0 (Sat.rdRow h 1 rfl) encI_len hx159 rfl rfl)) ?_
              clear hF; intro a hF
              refine ha_ld 6 hF rfl rfl rfl (by kernel_rfl) (by kernel_rfl) (by kernel_rfl) (by decide) (by kernel_rfl) (by kernel_rfl) (fun _ _ _ h => h) (wn_none rfl) hSS (yl_load (fun _ h => h) hF rfl rfl 0 rfl ag22 rfl) ?_
              clear hF; intro a hF
              have hlt_hx161 : k < (E).length := by first | omega | (simp; done) | (simp; omega)
              obtain ⟨x161, hx161⟩ := get_some hlt_hx161
              refine ha_yl 8 hF rfl rfl rfl (by kernel_rfl) (by kernel_rfl) (by kernel_rfl) (by decide) (fun _ _ _ h => h) (wn_none rfl) (.inr hSS) (yl_indexAddr hF rfl rfl rfl (fun _ => run_idx' sl22 sz3 (hS.rdRow 1 rfl) hlt_hx161)) ?_
              clear hF; intro a hF
              refine ha_ld 9 hF rfl rfl rfl (by kernel_rfl) (by kernel_rfl) (by kernel_rfl) (by decide) (by kernel_rfl) (by kernel_rfl) (fun _ _ _ h => h) (wn_none rfl) hSS (yl_loadAt hF rfl rfl ag3 (fun _ h => rd_cell0 (Sat.rdRow h 1 rfl) encI_len hx161 rfl rfl)) ?_
              clear hF; intro a hF
              refine ha_yl 10 hF rfl rfl rfl (by kernel_rfl) (by kernel_rfl) (by kernel_rfl) (by decide) (fun _ _ _ h => h) (wn_none rfl) (.inr hSS) (yl_bin hF rfl rfl rfl rfl (fun _ => run_geq)) ?_
              clear hF; intro a hF
              refine ha_yl 11 hF rfl rfl rfl (by kernel_rfl) (by kernel_rfl) (by kernel_rfl) (by decide) (fun _ _ _ h => h) (wn_none rfl) (.inr hSS) (yl_move hF rfl rfl) ?_
              clear hF; intro a hF
              refine fr_split hF (fun hc162 hF => ?_) (fun hc162 hF => ?_)
              · first | (replace hc162 := of_decide_eq_true hc162) | (replace hc162 := of_decide_eq_false (bnot_t hc162)) | (subst hc162) | (replace hc162 := bnot_t hc162; subst hc162) | (replace hc162 := bnot_t hc162) | skip
                refine ha_yl 12 hF rfl rfl rfl (by kernel_rfl) (by kernel_rfl) (by kernel_rfl) (by decide) (fun _ _ _ h => h) (wn_t hF rfl rfl rfl rfl) (.inr hSS) (yl_move hF rfl rfl) ?_
                clear hF; intro a hF
                refine ha_yl 14 hF rfl rfl rfl (by kernel_rfl) (by kernel_rfl) (by kernel_rfl) (by decide) (fun _ _ _ h => h) (wn_t hF rfl rfl rfl rfl) (.inr hSS) (yl_move hF rfl rfl) ?_
                clear hF; intro a hF
                refine ha_yl 15 hF rfl rfl rfl (by kernel_rfl) (by kernel_rfl) (by kernel_rfl) (by decide) (fun _ _ _ h => h) (wn_t hF rfl rfl rfl rfl) (.inr hSS) (yl_move hF rfl rfl) ?_
                clear hF; intro a hF
                refine ha_ld 13 hF rfl rfl rfl (by kernel_rfl) (by kernel_rfl) (by kernel_rfl) (by decide) (by kernel_rfl) (by kernel_rfl) (fun _ _ _ h => h) (wn_t hF rfl rfl rfl rfl) hSS (yl_loadK (rs := [_, _, _]) (fun _ h => h) hF rfl rfl 0 rfl ag27 sz27 rfl rfl) ?_
                clear hF; intro a hF
                refine ha_one 16 (by kernel_rfl) rfl (wn_t hF rfl rfl rfl rfl) (wp_call (vs := [_, _, _]) hF rfl rfl rfl rfl cf20 (share_any _ E ((((1 : Int) + (r138)))) (q) ((k : Nat) : Int) (r154) _ (hS.rdRow 1 rfl) (by first | omega | (simp; done) | (simp; omega) | (rw [stF_len]; first | omega | (simp; done) | (simp; omega)))) ?_)
                clear hF; rintro _ w ⟨rfl, hS1⟩ a hF
                replace hS := hS.callB hS1 rfl; clear hS1
                replace hSS := hS.sub [0, 1] (by decide) rfl (by simp)
                refine ⟨.inr hSS, ?_⟩
                refine ha_yl 17 hF rfl rfl rfl (by kernel_rfl) (by kernel_rfl) (by kernel_rfl) (by decide) (fun _ _ _ h => h) (wn_t hF rfl rfl rfl rfl) (.inr hSS) (yl_bin hF rfl rfl rfl rfl (fun _ => run_lss)) ?_
                clear hF; intro a hF
                replace hF := fr_set (b' := false) hF (by have h9 := sh_mono (p := (((1 : Int) + (r138)))) (q := q) (l := (r154)) hchk (by omega) hx159 hx161 (by omega); simp; omega)
                refine ha_yl 18 hF rfl rfl rfl (by kernel_rfl) (by kernel_rfl) (by kernel_rfl) (by decide) (fun _ _ _ h => h) (wn_none rfl) (.inr hSS) (yl_pick (u := _) (v := undef) hF rfl rfl (fun _ => rfl) (fun h => by cases h)) ?_
                clear hF; intro a hF
                refine ha_done (by kernel_rfl) ?_ _
                refine then_n ?_
                refine c_cond_f hF rfl ?_
                refine wp_skip ?_
                refine inb_n ?_
                refine then_n ?_
                refine c_region ?_
                refine seq_yl hF (wn_none rfl) rfl rfl (yl_move hF rfl rfl) ?_
                clear hF; intro a hF
                refine seq_yl hF (wn_none rfl) rfl rfl (yl_bin hF rfl rfl rfl rfl (fun _ => run_inc (by omega))) ?_
                clear hF; intro a hF
                refine seq_yl hF (wn_none rfl) rfl rfl (yl_assign hF rfl rfl) ?_
                clear hF; intro a hF
                refine wpList_nil ?_
                refine then_n ?_
                exact ⟨_, (by omega), k + 1, rfl, by omega, hF.to [4, 5, 8, 9, 10, 11, 12] rfl, (hS.sub [0, 1] (by decide) (by first | rfl | simp) (by simp))⟩
              · first | (replace hc162 := of_decide_eq_false hc162) | (replace hc162 := of_decide_eq_true (bnot_f hc162)) | (subst hc162) | (replace hc162 := bnot_f hc162; subst hc162) | (replace hc162 := bnot_f hc162) | skip
                refine ha_skip 12 hF rfl rfl rfl (by kernel_rfl) (by kernel_rfl) (by kernel_rfl) (by decide) (fun _ _ _ h => h) (wn_f hF rfl rfl rfl rfl) (.inr hSS) ?_
                clear hF; intro a hF
                refine ha_skip 13 hF rfl rfl rfl (by kernel_rfl) (by kernel_rfl) (by kernel_rfl) (by decide) (fun _ _ _ h => h) (wn_f hF rfl rfl rfl rfl) (.inr hSS) ?_
                clear hF; intro a hF
                refine ha_skip 14 hF rfl rfl rfl (by kernel_rfl) (by kernel_rfl) (by kernel_rfl) (by decide) (fun _ _ _ h => h) (wn_f hF rfl rfl rfl rfl) (.inr hSS) ?_
                clear hF; intro a hF
                refine ha_skip 15 hF rfl rfl rfl (by kernel_rfl) (by kernel_rfl) (by kernel_rfl) (by decide) (fun _ _ _ h => h) (wn_f hF rfl rfl rfl rfl) (.inr hSS) ?_
                clear hF; intro a hF
                refine ha_skip 16 hF rfl rfl rfl (by kernel_rfl) (by kernel_rfl) (by kernel_rfl) (by decide) (fun _ _ _ h => h) (wn_f hF rfl rfl rfl rfl) (.inr hSS) ?_
                clear hF; intro a hF
                refine ha_skip 17 hF rfl rfl rfl (by kernel_rfl) (by kernel_rfl) (by kernel_rfl) (by decide) (fun _ _ _ h => h) (wn_f hF rfl rfl rfl rfl) (.inr hSS) ?_
                clear hF; intro a hF
                refine ha_yl 18 hF rfl rfl rfl (by kernel_rfl) (by kernel_rfl) (by kernel_rfl) (by decide) (fun _ _ _ h => h) (wn_none rfl) (.inr hSS) (yl_pick (u := _) (v := undef) hF rfl rfl (fun h => by cases h) (fun _ => rfl)) ?_
                clear hF; intro a hF
                refine ha_done (by kernel_rfl) ?_ _
                refine then_n ?_
                refine c_cond_f hF rfl ?_
                refine wp_skip ?_
                refine inb_n ?_
                refine then_n ?_
                refine c_region ?_
                refine seq_yl hF (wn_none rfl) rfl rfl (yl_move hF rfl rfl) ?_
                clear hF; intro a hF
                refine seq_yl hF (wn_none rfl) rfl rfl (yl_bin hF rfl rfl rfl rfl (fun _ => run_inc (by omega))) ?_
                clear hF; intro a hF
                refine seq_yl hF (wn_none rfl) rfl rfl (yl_assign hF rfl rfl) ?_
                clear hF; intro a hF
                refine wpList_nil ?_
                refine then_n ?_
                exact ⟨_, (by omega), k + 1, rfl, by omega, hF.to [4, 5, 8, 9, 10, 11, 12] rfl, (hS.sub [0, 1] (by decide) (by first | rfl | simp) (by simp))⟩
            · first | (replace hc158 := of_decide_eq_false hc158) | (replace hc158 := of_decide_eq_true (bnot_f hc158)) | (subst hc158) | (replace hc158 := bnot_f hc158; subst hc158) | (replace hc158 := bnot_f hc158) | skip
              refine wp_exit ?_
              refine then_x ?_
              refine then_x ?_
              refine inb_x ?_
              refine inb_n ?_
              refine then_n ?_
              refine c_region ?_
              refine seq_yl hF (wn_none rfl) rfl rfl (yl_move hF rfl rfl) ?_
              clear hF; intro a hF
              refine seq_yl hF (wn_none rfl) rfl rfl (yl_bin hF rfl rfl rfl rfl (fun _ => run_inc (by omega))) ?_
              clear hF; intro a hF
              refine seq_yl hF (wn_none rfl) rfl rfl (yl_assign hF rfl rfl) ?_
              clear hF; intro a hF
              refine wpList_nil ?_
              refine then_n ?_
              exact ⟨_, (by omega), i + 1, _, rfl, ⟨by omega, by rw [hts]; rfl⟩, hF.to [4, 5, 8, 9, 10] rfl, (hS.sub [0, 1] (by decide) (by first | rfl | simp) (by simp))⟩
        · first | (replace hc157 := of_decide_eq_false hc157) | (replace hc157 := of_decide_eq_true (bnot_f hc157)) | (subst hc157) | (replace hc157 := bnot_f hc157; subst hc157) | (replace hc157 := bnot_f hc157) | skip
          refine wp_exit ?_
          refine then_x ?_
          refine then_x ?_
          refine inb_x ?_
          refine then_n ?_
          refine c_seq ?_
          refine c_region ?_
          refine seq_yl hF (wn_none rfl) rfl rfl (yl_move hF rfl rfl) ?_
          clear hF; intro a hF
          refine seq_yl hF (wn_none rfl) rfl rfl (yl_move hF rfl rfl) ?_
          clear hF; intro a hF
          refine seq_yl hF (wn_none rfl) rfl rfl (yl_move hF rfl rfl) ?_
          clear hF; intro a hF
          refine seq_yl hF (wn_none rfl) rfl rfl (yl_bin hF rfl rfl rfl rfl (fun _ => run_sub (by refine ⟨?_, ?_⟩ <;> omega))) ?_
          clear hF; intro a hF
          refine seq_yl hF (wn_none rfl) rfl rfl (yl_bin hF rfl rfl rfl rfl (fun _ => run_mul (by refine ⟨?_, ?_⟩ <;> omega))) ?_
          clear hF; intro a hF
          refine seq_yl hF (wn_none rfl) rfl rfl (yl_bin hF rfl rfl rfl rfl (fun _ => run_add (by refine ⟨?_, ?_⟩ <;> omega))) ?_
          clear hF; intro a hF
          refine seq_yl hF (wn_none rfl) rfl rfl (yl_bin hF rfl rfl rfl rfl (fun _ => run_leq)) ?_
          clear hF; intro a hF
          refine seq_yl hF (wn_none rfl) rfl rfl (yl_move hF rfl rfl) ?_
          clear hF; intro a hF
          replace hF := fr_set (b' := true) hF (by rw [decide_eq_true_eq]; have h9 := shSum_top (p := (((1 : Int) + (r138)))) (q := q) (l := (r154)) hchk (by omega); rw [show E.length = i by omega, ← hts] at h9; omega)
          refine seq_wp (wn_t hF rfl rfl rfl rfl) (wp_call (vs := []) hF rfl rfl rfl rfl cf22 (awake_any _) ?_)
          clear hF; rintro _ w ⟨rfl, hS1⟩ a hF
          replace hS := hS.callB hS1 rfl; clear hS1
          refine seq_yl hF (wn_none rfl) rfl rfl (yl_pick (u := _) (v := undef) hF rfl rfl (fun _ => rfl) (fun h => by cases h)) ?_
          clear hF; intro a hF
          refine seq_yl hF (wn_none rfl) rfl rfl (yl_assign hF rfl rfl) ?_
          clear hF; intro a hF
          refine wpList_nil ?_
          refine then_n ?_
          refine wp_ret ?_
          refine ret_t hF rfl rfl ?_
          exact ⟨_, rfl, rfl, (hS.sub [] (by decide) (by first | rfl | simp) (by simp))⟩

end Go.Proofs.Ytllcklmbbkafgaa

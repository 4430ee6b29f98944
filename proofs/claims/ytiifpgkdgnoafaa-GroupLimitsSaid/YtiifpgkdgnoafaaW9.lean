/- walks, printed by wip/gen -/
import Derived.Test.YtiifpgkdgnoafaaW8
import Derived.Test.YtiifpgkdgnoafaaW6
import Derived.Test.YtiifpgkdgnoafaaP3
namespace Go.Proofs.Ytiifpgkdgnoafaa
open Go.RowKit
set_option linter.unusedVariables false
set_option linter.unusedSimpArgs false

theorem limits_any (v : Value) (L : List Int) (n : Int) (w0 : World) (hv : Rd w0 1 v (L).length (cells encI (L))) (hL : L.length ≤ maxLen) :
    Fn Try.prog 7 #[v, .int .i64 n] w0 (fun v w' => v = .bool true ∧ Sat w0 w' []) := by
  simp only [maxLen] at hL
  obtain ⟨Av, cv, rfl⟩ := Rd.form hv
  refine c_enter (N := 106) (l := [_, _]) Try.func7 rfl rfl (fun a w hF hS => ?_)
  replace hS := hS.addRo hv
  refine c_seq ?_
  refine c_region ?_
  refine seq_yl hF (wn_none rfl) rfl rfl (yl_assign hF rfl rfl) ?_
  clear hF; intro a hF
  refine wpList_nil ?_
  refine then_n ?_
  refine c_seq ?_
  refine c_region ?_
  refine seq_yl hF (wn_none rfl) rfl rfl (yl_move hF rfl rfl) ?_
  clear hF; intro a hF
  refine seq_yl hF (wn_none rfl) rfl rfl (yl_build (parts := [(0, .tmp 16)]) (vs := [(0, _)]) (cs := [_, _]) hF bd25 rfl rfl rfl rfl) ?_
  clear hF; intro a hF
  refine seq_wp (wn_none rfl) (wp_box (cs := #[_, _]) hF hS rfl rfl rfl rfl rfl ?_)
  clear hF hS; intro a w g170 hF hS
  refine seq_yl hF (wn_none rfl) rfl rfl (yl_assign hF rfl rfl) ?_
  clear hF; intro a hF
  refine wpList_nil ?_
  refine then_n ?_
  refine c_seq ?_
  refine c_region ?_
  refine seq_yl hF (wn_none rfl) rfl rfl (yl_move hF rfl rfl) ?_
  clear hF; intro a hF
  refine seq_wp (wn_none rfl) (wp_call (vs := [_]) hF rfl rfl rfl rfl cf8 (groups_any _ _ _ _ _ _ _ (0 : Nat) hS (by omega) (by omega)) ?_)
  clear hF; rintro _ w ⟨v171, G172, it173, rfl, h1G172, h4G172, hRG172, hiit173, hS1⟩ a hF; replace hS := hS1; clear hS1
  obtain ⟨Av171, cv171, rfl⟩ := hS.form 0 rfl
  refine seq_yl hF (wn_none rfl) rfl rfl (yl_assign hF rfl rfl) ?_
  clear hF; intro a hF
  refine wpList_nil ?_
  refine then_n ?_
  refine c_seq ?_
  refine c_region ?_
  refine seq_yl hF (wn_none rfl) rfl rfl (yl_move hF rfl rfl) ?_
  clear hF; intro a hF
  refine seq_yl hF (wn_none rfl) rfl rfl (yl_move hF rfl rfl) ?_
  clear hF; intro a hF
  refine seq_yl hF (wn_none rfl) rfl rfl (yl_len hF rfl rfl (fun _ => run_lenRd sl26 (hS.rdRow 0 rfl))) ?_
  clear hF; intro a hF
  replace hS := (hS.sub [1, 2, 0] (by decide) (by first | rfl | simp) (by simp))
  refine seq_wp (wn_none rfl) (wp_call (vs := [_, _]) hF rfl rfl rfl rfl cf9 (next_any _ _ _ _ _ _ _ (it173 : Nat) (((G172).length : Nat) : Int) (by omega) hS (by omega) (by omega)) ?_)
  clear hF; rintro _ w ⟨r174, it175, rfl, hb176, hiit175, hS1⟩ a hF; replace hS := hS1; clear hS1
  obtain ⟨rn177, rfl⟩ : ∃ n : Nat, r174 = n := ⟨r174.toNat, by omega⟩
  refine seq_yl hF (wn_none rfl) rfl rfl (yl_move hF rfl rfl) ?_
  clear hF; intro a hF
  have hr178 := rnd_bounds (n) (30 : Int) (by omega)
  refine seq_wp (wn_none rfl) (wp_call (vs := [_, _]) hF rfl rfl rfl rfl cf25 (cut_any (n) (30 : Int) _ (by omega) (by omega)) ?_)
  clear hF; rintro _ w ⟨rfl, hS1⟩ a hF
  replace hS := hS.callB hS1 rfl; clear hS1
  refine seq_yl hF (wn_none rfl) rfl rfl (yl_assign hF rfl rfl) ?_
  clear hF; intro a hF
  refine seq_yl hF (wn_none rfl) rfl rfl (yl_assign hF rfl rfl) ?_
  clear hF; intro a hF
  refine wpList_nil ?_
  refine then_n ?_
  refine c_seq ?_
  refine c_seq ?_
  refine c_region ?_
  refine seq_yl hF (wn_none rfl) rfl rfl (yl_move hF rfl rfl) ?_
  clear hF; intro a hF
  refine seq_wp (wn_none rfl) (wp_call (vs := [_]) hF rfl rfl rfl rfl cf19 (check_any _ G172 _ (hS.rdRow 2 rfl) (by first | omega | (simp; done) | (simp; omega) | (rw [chF_len]; first | omega | (simp; done) | (simp; omega)) | (rw [unF_len]; first | omega | (simp; done) | (simp; omega)))) ?_)
  clear hF; rintro _ w ⟨rfl, hS1⟩ a hF
  replace hS := hS.callB hS1 rfl; clear hS1
  refine seq_yl hF (wn_none rfl) rfl rfl (yl_un hF rfl rfl (fun _ => run_not)) ?_
  clear hF; intro a hF
  refine wpList_nil ?_
  refine then_n ?_
  refine c_cond hF rfl (fun hc179 => ?_) (fun hc179 => ?_)
  · first | (replace hc179 := of_decide_eq_true hc179) | (replace hc179 := of_decide_eq_false (bnot_t hc179)) | (subst hc179) | (replace hc179 := bnot_t hc179; subst hc179) | (replace hc179 := bnot_t hc179) | skip
    refine c_seq ?_
    refine c_region ?_
    refine seq_wp (wn_none rfl) (wp_call (vs := []) hF rfl rfl rfl rfl cf24 (awake_any _) ?_)
    clear hF; rintro _ w ⟨rfl, hS1⟩ a hF
    replace hS := hS.callB hS1 rfl; clear hS1
    refine seq_yl hF (wn_none rfl) rfl rfl (yl_assign hF rfl rfl) ?_
    clear hF; intro a hF
    refine wpList_nil ?_
    refine then_n ?_
    refine wp_ret ?_
    refine then_r ?_
    refine ret_t hF rfl rfl ?_
    exact ⟨_, rfl, rfl, (hS.sub [] (by decide) (by first | rfl | simp) (by simp))⟩
  · first | (replace hc179 := of_decide_eq_false hc179) | (replace hc179 := of_decide_eq_true (bnot_f hc179)) | (subst hc179) | (replace hc179 := bnot_f hc179; subst hc179) | (replace hc179 := bnot_f hc179) | skip
    refine wp_skip ?_
    refine then_n ?_
    refine c_seq ?_
    refine c_region ?_
    refine seq_yl hF (wn_none rfl) rfl rfl (yl_move hF rfl rfl) ?_
    clear hF; intro a hF
    refine seq_yl hF (wn_none rfl) rfl rfl (yl_move hF rfl rfl) ?_
    clear hF; intro a hF
    refine seq_yl hF (wn_none rfl) rfl rfl (yl_move hF rfl rfl) ?_
    clear hF; intro a hF
    refine seq_wp (wn_none rfl) (wp_call (vs := [_, _, _]) hF rfl rfl rfl rfl cf22 (over_any _ G172 ((rn177 : Nat) : Int) ((rnd (n) (30 : Int))) _ (hS.rdRow 2 rfl) (by first | omega | (simp; done) | (simp; omega) | (rw [chF_len]; first | omega | (simp; done) | (simp; omega)) | (rw [unF_len]; first | omega | (simp; done) | (simp; omega)))) ?_)
    clear hF; rintro _ w ⟨rfl, hS1⟩ a hF
    replace hS := hS.callB hS1 rfl; clear hS1
    refine seq_yl hF (wn_none rfl) rfl rfl (yl_assign hF rfl rfl) ?_
    clear hF; intro a hF
    refine wpList_nil ?_
    refine then_n ?_
    refine c_seq ?_
    refine c_region ?_
    refine seq_yl hF (wn_none rfl) rfl rfl (yl_move hF rfl rfl) ?_
    clear hF; intro a hF
    refine seq_yl hF (wn_none rfl) rfl rfl (yl_move hF rfl rfl) ?_
    clear hF; intro a hF
    refine seq_yl hF (wn_none rfl) rfl rfl (yl_move hF rfl rfl) ?_
    clear hF; intro a hF
    refine seq_wp (wn_none rfl) (wp_call (vs := [_, _, _]) hF rfl rfl rfl rfl cf11 (charge_any _ G172 ((rn177 : Nat) : Int) ((rnd (n) (30 : Int))) _ (hS.rdRow 2 rfl) (by first | omega | (simp; done) | (simp; omega) | (rw [chF_len]; first | omega | (simp; done) | (simp; omega)) | (rw [unF_len]; first | omega | (simp; done) | (simp; omega)))) ?_)
    clear hF; rintro _ w ⟨v180, rfl, hS1⟩ a hF
    replace hS := hS.callB hS1 rfl; clear hS1
    obtain ⟨Av180, cv180, rfl⟩ := hS.form 0 rfl
    refine seq_yl hF (wn_none rfl) rfl rfl (yl_move hF rfl rfl) ?_
    clear hF; intro a hF
    refine seq_yl hF (wn_none rfl) rfl rfl (yl_extract hF rfl rfl rfl) ?_
    clear hF; intro a hF
    refine seq_yl hF (wn_none rfl) rfl rfl (yl_extract hF rfl rfl rfl) ?_
    clear hF; intro a hF
    refine seq_yl hF (wn_none rfl) rfl rfl (yl_assign hF rfl rfl) ?_
    clear hF; intro a hF
    refine seq_yl hF (wn_none rfl) rfl rfl (yl_assign hF rfl rfl) ?_
    clear hF; intro a hF
    refine wpList_nil ?_
    refine then_n ?_
    refine c_seq ?_
    refine c_seq ?_
    refine c_region ?_
    obtain ⟨xg, hxg⟩ := get_some (show rn177 < G172.length by omega)
    have hlo := lim_one (k := ((rnd (n) (30 : Int)))) (by assumption) hxg (by omega)
    refine seq_yl hF (wn_none rfl) rfl rfl (yl_move hF rfl rfl) ?_
    clear hF; intro a hF
    refine seq_yl hF (wn_none rfl) rfl rfl (yl_bin hF rfl rfl rfl rfl (fun _ => run_eql)) ?_
    clear hF; intro a hF
    refine seq_yl hF (wn_none rfl) rfl rfl (yl_move hF rfl rfl) ?_
    clear hF; intro a hF
    refine seq_yl hF (wn_none rfl) rfl rfl (yl_bin hF rfl rfl rfl rfl (fun _ => run_eql)) ?_
    clear hF; intro a hF
    refine seq_yl hF (wn_none rfl) rfl rfl (yl_bin hF rfl rfl rfl rfl (fun _ => run_neb Try.underlying4)) ?_
    clear hF; intro a hF
    replace hF := fr_set (b' := false) hF (by simp only [hlo.1]; simp)
    refine seq_yl hF (wn_none rfl) rfl rfl (yl_move hF rfl rfl) ?_
    clear hF; intro a hF
    refine seq_yl hF (wn_t hF rfl rfl rfl rfl) rfl rfl (yl_move hF rfl rfl) ?_
    clear hF; intro a hF
    refine seq_yl hF (wn_t hF rfl rfl rfl rfl) rfl rfl (yl_bin hF rfl rfl rfl rfl (fun _ => run_lss)) ?_
    clear hF; intro a hF
    replace hF := fr_set (b' := false) hF (by rw [decide_eq_false_iff_not]; omega)
    refine seq_yl hF (wn_none rfl) rfl rfl (yl_pick (u := _) (v := undef) hF rfl rfl (fun h => by cases h) (fun _ => rfl)) ?_
    clear hF; intro a hF
    refine wpList_nil ?_
    refine then_n ?_
    refine c_cond_f hF rfl ?_
    refine wp_skip ?_
    refine then_n ?_
    refine c_seq ?_
    refine c_seq ?_
    refine c_region ?_
    refine seq_yl hF (wn_none rfl) rfl rfl (yl_move hF rfl rfl) ?_
    clear hF; intro a hF
    refine seq_yl hF (wn_none rfl) rfl rfl (yl_bin hF rfl rfl rfl rfl (fun _ => run_eql)) ?_
    clear hF; intro a hF
    refine seq_yl hF (wn_none rfl) rfl rfl (yl_move hF rfl rfl) ?_
    clear hF; intro a hF
    refine fr_split hF (fun hc181 hF => ?_) (fun hc181 hF => ?_)
    · first | (replace hc181 := of_decide_eq_true hc181) | (replace hc181 := of_decide_eq_false (bnot_t hc181)) | (subst hc181) | (replace hc181 := bnot_t hc181; subst hc181) | (replace hc181 := bnot_t hc181) | skip
      refine seq_skip hF (wn_f hF rfl rfl rfl rfl) rfl rfl ?_
      clear hF; intro a hF
      refine seq_skip hF (wn_f hF rfl rfl rfl rfl) rfl rfl ?_
      clear hF; intro a hF
      refine seq_skip hF (wn_f hF rfl rfl rfl rfl) rfl rfl ?_
      clear hF; intro a hF
      refine seq_skip hF (wn_f hF rfl rfl rfl rfl) rfl rfl ?_
      clear hF; intro a hF
      refine seq_skip hF (wn_f hF rfl rfl rfl rfl) rfl rfl ?_
      clear hF; intro a hF
      refine seq_skip hF (wn_f hF rfl rfl rfl rfl) rfl rfl ?_
      clear hF; intro a hF
      refine seq_skip hF (wn_f hF rfl rfl rfl rfl) rfl rfl ?_
      clear hF; intro a hF
      refine seq_yl hF (wn_none rfl) rfl rfl (yl_pick (u := _) (v := undef) hF rfl rfl (fun _ => rfl) (fun h => by cases h)) ?_
      clear hF; intro a hF
      refine wpList_nil ?_
      refine then_n ?_
      refine c_cond_t hF rfl ?_
      refine c_seq ?_
      refine c_region ?_
      refine seq_wp (wn_none rfl) (wp_call (vs := []) hF rfl rfl rfl rfl cf24 (awake_any _) ?_)
      clear hF; rintro _ w ⟨rfl, hS1⟩ a hF
      replace hS := hS.callB hS1 rfl; clear hS1
      refine seq_yl hF (wn_none rfl) rfl rfl (yl_assign hF rfl rfl) ?_
      clear hF; intro a hF
      refine wpList_nil ?_
      refine then_n ?_
      refine wp_ret ?_
      refine then_r ?_
      refine ret_t hF rfl rfl ?_
      exact ⟨_, rfl, rfl, (hS.sub [] (by decide) (by first | rfl | simp) (by simp))⟩
    · first | (replace hc181 := of_decide_eq_false hc181) | (replace hc181 := of_decide_eq_true (bnot_f hc181)) | (subst hc181) | (replace hc181 := bnot_f hc181; subst hc181) | (replace hc181 := bnot_f hc181) | skip
      refine seq_yl hF (wn_t hF rfl rfl rfl rfl) rfl rfl (yl_move hF rfl rfl) ?_
      clear hF; intro a hF
      refine seq_yl hF (wn_t hF rfl rfl rfl rfl) rfl rfl (yl_move hF rfl rfl) ?_
      clear hF; intro a hF
      refine seq_yl hF (wn_t hF rfl rfl rfl rfl) rfl rfl (yl_move hF rfl rfl) ?_
      clear hF; intro a hF
      have hlt_hx182 : rn177 < (G172).length := by first | omega | (simp; done) | (simp; omega)
      obtain ⟨ad183, rfl⟩ := rd_some (hS.rdRow 3 rfl) hlt_hx182
      obtain ⟨x182, hx182⟩ := get_some hlt_hx182
      have hb_x182 := hRG172 x182 (List.mem_of_getElem? hx182)
      refine seq_yl hF (wn_t hF rfl rfl rfl rfl) rfl rfl (yl_indexAddr hF rfl rfl rfl (fun _ => run_idx' sl26 sz36 (hS.rdRow 3 rfl) hlt_hx182)) ?_
      clear hF; intro a hF
      refine seq_yl hF (wn_t hF rfl rfl rfl rfl) rfl rfl (yl_fieldAddr hF rfl rfl (fun w => run_fa fo36_2)) ?_
      clear hF; intro a hF
      refine seq_yl hF (wn_t hF rfl rfl rfl rfl) rfl rfl (yl_loadAt hF rfl rfl ag3 (fun _ h => rd_cell (j := 2) (enc := enc36) (by subst h; exact hS.rdRow 3 rfl) enc36_len hx182 rfl rfl)) ?_
      clear hF; intro a hF
      refine seq_yl hF (wn_t hF rfl rfl rfl rfl) rfl rfl (yl_bin hF rfl rfl rfl rfl (fun _ => run_gtr)) ?_
      clear hF; intro a hF
      refine seq_yl hF (wn_none rfl) rfl rfl (yl_pick (u := _) (v := undef) hF rfl rfl (fun h => by cases h) (fun _ => rfl)) ?_
      clear hF; intro a hF
      refine wpList_nil ?_
      refine then_n ?_
      refine c_cond hF rfl (fun hc184 => ?_) (fun hc184 => ?_)
      · first | (replace hc184 := of_decide_eq_true hc184) | (replace hc184 := of_decide_eq_false (bnot_t hc184)) | (subst hc184) | (replace hc184 := bnot_t hc184; subst hc184) | (replace hc184 := bnot_t hc184) | skip
        refine c_seq ?_
        refine c_region ?_
        refine seq_wp (wn_none rfl) (wp_call (vs := []) hF rfl rfl rfl rfl cf24 (awake_any _) ?_)
        clear hF; rintro _ w ⟨rfl, hS1⟩ a hF
        replace hS := hS.callB hS1 rfl; clear hS1
        refine seq_yl hF (wn_none rfl) rfl rfl (yl_assign hF rfl rfl) ?_
        clear hF; intro a hF
        refine wpList_nil ?_
        refine then_n ?_
        refine wp_ret ?_
        refine then_r ?_
        refine ret_t hF rfl rfl ?_
        exact ⟨_, rfl, rfl, (hS.sub [] (by decide) (by first | rfl | simp) (by simp))⟩
      · first | (replace hc184 := of_decide_eq_false hc184) | (replace hc184 := of_decide_eq_true (bnot_f hc184)) | (subst hc184) | (replace hc184 := bnot_f hc184; subst hc184) | (replace hc184 := bnot_f hc184) | skip
        refine wp_skip ?_
        refine then_n ?_
        refine c_seq ?_
        refine c_region ?_
        have hxe : x182 = xg := Option.some.inj (hx182.symm.trans hxg)
        have hxe2 := congrArg E36.f2 hxe
        have hxe0 := congrArg E36.f0 hxe
        have hlt2 := lim_two (k := ((rnd (n) (30 : Int)))) (by assumption) hxg (by omega) (by assumption) (by omega)
        obtain ⟨hl21, hl22, zg, hzg, hzf⟩ := hlt2
        refine seq_yl hF (wn_none rfl) rfl rfl (yl_move hF rfl rfl) ?_
        clear hF; intro a hF
        refine seq_yl hF (wn_none rfl) rfl rfl (yl_move hF rfl rfl) ?_
        clear hF; intro a hF
        refine seq_yl hF (wn_none rfl) rfl rfl (yl_move hF rfl rfl) ?_
        clear hF; intro a hF
        refine seq_wp (wn_none rfl) (wp_call (vs := [_, _, _]) hF rfl rfl rfl rfl cf13 (uncharge_any _ G172 ((rn177 : Nat) : Int) ((ovF G172 ((rn177 : Nat) : Int) ((rnd (n) (30 : Int))))) _ (hS.rdRow 3 rfl) (by first | omega | (simp; done) | (simp; omega) | (rw [chF_len]; first | omega | (simp; done) | (simp; omega)) | (rw [unF_len]; first | omega | (simp; done) | (simp; omega)))) ?_)
        clear hF; rintro _ w ⟨v185, rfl, hS1⟩ a hF
        replace hS := hS.callB hS1 rfl; clear hS1
        obtain ⟨Av185, cv185, rfl⟩ := hS.form 0 rfl
        refine seq_yl hF (wn_none rfl) rfl rfl (yl_move hF rfl rfl) ?_
        clear hF; intro a hF
        refine seq_yl hF (wn_none rfl) rfl rfl (yl_extract hF rfl rfl rfl) ?_
        clear hF; intro a hF
        refine seq_yl hF (wn_none rfl) rfl rfl (yl_extract hF rfl rfl rfl) ?_
        clear hF; intro a hF
        refine seq_yl hF (wn_none rfl) rfl rfl (yl_assign hF rfl rfl) ?_
        clear hF; intro a hF
        refine seq_yl hF (wn_none rfl) rfl rfl (yl_assign hF rfl rfl) ?_
        clear hF; intro a hF
        refine wpList_nil ?_
        refine then_n ?_
        refine c_seq ?_
        refine c_region ?_
        refine seq_yl hF (wn_none rfl) rfl rfl (yl_move hF rfl rfl) ?_
        clear hF; intro a hF
        refine seq_yl hF (wn_none rfl) rfl rfl (yl_move hF rfl rfl) ?_
        clear hF; intro a hF
        refine seq_yl hF (wn_none rfl) rfl rfl (yl_move hF rfl rfl) ?_
        clear hF; intro a hF
        refine seq_wp (wn_none rfl) (wp_call (vs := [_, _, _]) hF rfl rfl rfl rfl cf11 (charge_any _ (unF G172 ((rn177 : Nat) : Int) ((ovF G172 ((rn177 : Nat) : Int) ((rnd (n) (30 : Int)))))).1 ((rn177 : Nat) : Int) ((rnd (n) (30 : Int))) _ (hS.rdRow 0 rfl) (by first | omega | (simp; done) | (simp; omega) | (rw [chF_len]; first | omega | (simp; done) | (simp; omega)) | (rw [unF_len]; first | omega | (simp; done) | (simp; omega)))) ?_)
        clear hF; rintro _ w ⟨v186, rfl, hS1⟩ a hF
        replace hS := hS.callB hS1 rfl; clear hS1
        obtain ⟨Av186, cv186, rfl⟩ := hS.form 0 rfl
        refine seq_yl hF (wn_none rfl) rfl rfl (yl_move hF rfl rfl) ?_
        clear hF; intro a hF
        refine seq_yl hF (wn_none rfl) rfl rfl (yl_extract hF rfl rfl rfl) ?_
        clear hF; intro a hF
        refine seq_yl hF (wn_none rfl) rfl rfl (yl_extract hF rfl rfl rfl) ?_
        clear hF; intro a hF
        refine seq_yl hF (wn_none rfl) rfl rfl (yl_assign hF rfl rfl) ?_
        clear hF; intro a hF
        refine seq_yl hF (wn_none rfl) rfl rfl (yl_assign hF rfl rfl) ?_
        clear hF; intro a hF
        refine wpList_nil ?_
        refine then_n ?_
        refine c_seq ?_
        refine ha_startS hS [0, 5] 30 (by kernel_rfl) ?_; clear hS; intro w hS
        have hSS := hS.sub [0, 5] (by decide) rfl (by simp)
        refine ha_yl 0 hF rfl rfl rfl (by kernel_rfl) (by kernel_rfl) (by kernel_rfl) (by decide) (fun _ _ _ h => h) (wn_none rfl) (.inr hSS) (yl_move hF rfl rfl) ?_
        clear hF; intro a hF
        refine ha_yl 1 hF rfl rfl rfl (by kernel_rfl) (by kernel_rfl) (by kernel_rfl) (by decide) (fun _ _ _ h => h) (wn_none rfl) (.inr hSS) (yl_bin hF rfl rfl rfl rfl (fun _ => run_eql)) ?_
        clear hF; intro a hF
        replace hF := fr_set (b' := true) hF (by rw [decide_eq_true_eq]; exact hl21)
        refine ha_yl 2 hF rfl rfl rfl (by kernel_rfl) (by kernel_rfl) (by kernel_rfl) (by decide) (fun _ _ _ h => h) (wn_none rfl) (.inr hSS) (yl_move hF rfl rfl) ?_
        clear hF; intro a hF
        refine ha_yl 3 hF rfl rfl rfl (by kernel_rfl) (by kernel_rfl) (by kernel_rfl) (by decide) (fun _ _ _ h => h) (wn_t hF rfl rfl rfl rfl) (.inr hSS) (yl_move hF rfl rfl) ?_
        clear hF; intro a hF
        refine ha_yl 4 hF rfl rfl rfl (by kernel_rfl) (by kernel_rfl) (by kernel_rfl) (by decide) (fun _ _ _ h => h) (wn_t hF rfl rfl rfl rfl) (.inr hSS) (yl_bin hF rfl rfl rfl rfl (fun _ => run_eql)) ?_
        clear hF; intro a hF
        replace hF := fr_set (b' := true) hF (by rw [decide_eq_true_eq]; exact hl22)
        refine ha_yl 5 hF rfl rfl rfl (by kernel_rfl) (by kernel_rfl) (by kernel_rfl) (by decide) (fun _ _ _ h => h) (wn_none rfl) (.inr hSS) (yl_pick (u := _) (v := undef) hF rfl rfl (fun _ => rfl) (fun h => by cases h)) ?_
        clear hF; intro a hF
        refine ha_yl 6 hF rfl rfl rfl (by kernel_rfl) (by kernel_rfl) (by kernel_rfl) (by decide) (fun _ _ _ h => h) (wn_none rfl) (.inr hSS) (yl_move hF rfl rfl) ?_
        clear hF; intro a hF
        refine ha_yl 7 hF rfl rfl rfl (by kernel_rfl) (by kernel_rfl) (by kernel_rfl) (by decide) (fun _ _ _ h => h) (wn_t hF rfl rfl rfl rfl) (.inr hSS) (yl_move hF rfl rfl) ?_
        clear hF; intro a hF
        refine ha_yl 8 hF rfl rfl rfl (by kernel_rfl) (by kernel_rfl) (by kernel_rfl) (by decide) (fun _ _ _ h => h) (wn_t hF rfl rfl rfl rfl) (.inr hSS) (yl_len hF rfl rfl (fun _ => run_lenRd sl26 (hS.rdRow 0 rfl))) ?_
        clear hF; intro a hF
        refine ha_yl 9 hF rfl rfl rfl (by kernel_rfl) (by kernel_rfl) (by kernel_rfl) (by decide) (fun _ _ _ h => h) (wn_t hF rfl rfl rfl rfl) (.inr hSS) (yl_move hF rfl rfl) ?_
        clear hF; intro a hF
        refine ha_yl 10 hF rfl rfl rfl (by kernel_rfl) (by kernel_rfl) (by kernel_rfl) (by decide) (fun _ _ _ h => h) (wn_t hF rfl rfl rfl rfl) (.inr hSS) (yl_len hF rfl rfl (fun _ => run_lenRd sl26 (hS.rdRow 5 rfl))) ?_
        clear hF; intro a hF
        refine ha_yl 11 hF rfl rfl rfl (by kernel_rfl) (by kernel_rfl) (by kernel_rfl) (by decide) (fun _ _ _ h => h) (wn_t hF rfl rfl rfl rfl) (.inr hSS) (yl_bin hF rfl rfl rfl rfl (fun _ => run_eql)) ?_
        clear hF; intro a hF
        replace hF := fr_set (b' := true) hF (by rw [decide_eq_true_eq, chF_len, unF_len])
        refine ha_yl 12 hF rfl rfl rfl (by kernel_rfl) (by kernel_rfl) (by kernel_rfl) (by decide) (fun _ _ _ h => h) (wn_none rfl) (.inr hSS) (yl_pick (u := _) (v := undef) hF rfl rfl (fun _ => rfl) (fun h => by cases h)) ?_
        clear hF; intro a hF
        refine ha_yl 13 hF rfl rfl rfl (by kernel_rfl) (by kernel_rfl) (by kernel_rfl) (by decide) (fun _ _ _ h => h) (wn_none rfl) (.inr hSS) (yl_move hF rfl rfl) ?_
        clear hF; intro a hF
        refine ha_yl 14 hF rfl rfl rfl (by kernel_rfl) (by kernel_rfl) (by kernel_rfl) (by decide) (fun _ _ _ h => h) (wn_t hF rfl rfl rfl rfl) (.inr hSS) (yl_move hF rfl rfl) ?_
        clear hF; intro a hF
        refine ha_yl 15 hF rfl rfl rfl (by kernel_rfl) (by kernel_rfl) (by kernel_rfl) (by decide) (fun _ _ _ h => h) (wn_t hF rfl rfl rfl rfl) (.inr hSS) (yl_move hF rfl rfl) ?_
        clear hF; intro a hF
        have hlt_hx187 : rn177 < ((chF (unF G172 ((rn177 : Nat) : Int) ((ovF G172 ((rn177 : Nat) : Int) ((rnd (n) (30 : Int)))))).1 ((rn177 : Nat) : Int) ((rnd (n) (30 : Int)))).1).length := by first | omega | (rw [chF_len, unF_len]; omega) | (rw [chF_len]; omega) | (rw [unF_len]; omega) | decide +kernel | (simp; omega)
        obtain ⟨ad188, rfl⟩ := rd_some (hS.rdRow 0 rfl) hlt_hx187
        obtain ⟨x187, hx187⟩ := get_some hlt_hx187
        refine ha_yl 16 hF rfl rfl rfl (by kernel_rfl) (by kernel_rfl) (by kernel_rfl) (by decide) (fun _ _ _ h => h) (wn_t hF rfl rfl rfl rfl) (.inr hSS) (yl_indexAddr hF rfl rfl rfl (fun _ => run_idx' sl26 sz36 (hS.rdRow 0 rfl) hlt_hx187)) ?_
        clear hF; intro a hF
        refine ha_yl 17 hF rfl rfl rfl (by kernel_rfl) (by kernel_rfl) (by kernel_rfl) (by decide) (fun _ _ _ h => h) (wn_t hF rfl rfl rfl rfl) (.inr hSS) (yl_fieldAddr hF rfl rfl (fun w => run_fa fo36_2)) ?_
        clear hF; intro a hF
        refine ha_yl 19 hF rfl rfl rfl (by kernel_rfl) (by kernel_rfl) (by kernel_rfl) (by decide) (fun _ _ _ h => h) (wn_t hF rfl rfl rfl rfl) (.inr hSS) (yl_move hF rfl rfl) ?_
        clear hF; intro a hF
        refine ha_yl 20 hF rfl rfl rfl (by kernel_rfl) (by kernel_rfl) (by kernel_rfl) (by decide) (fun _ _ _ h => h) (wn_t hF rfl rfl rfl rfl) (.inr hSS) (yl_move hF rfl rfl) ?_
        clear hF; intro a hF
        refine ha_yl 21 hF rfl rfl rfl (by kernel_rfl) (by kernel_rfl) (by kernel_rfl) (by decide) (fun _ _ _ h => h) (wn_t hF rfl rfl rfl rfl) (.inr hSS) (yl_indexAddr hF rfl rfl rfl (fun _ => run_idx' sl26 sz36 (hS.rdRow 5 rfl) hlt_hx182)) ?_
        clear hF; intro a hF
        refine ha_yl 22 hF rfl rfl rfl (by kernel_rfl) (by kernel_rfl) (by kernel_rfl) (by decide) (fun _ _ _ h => h) (wn_t hF rfl rfl rfl rfl) (.inr hSS) (yl_fieldAddr hF rfl rfl (fun w => run_fa0 fo36_0)) ?_
        clear hF; intro a hF
        refine ha_ld 18 hF rfl rfl rfl (by kernel_rfl) (by kernel_rfl) (by kernel_rfl) (by decide) (by kernel_rfl) (by kernel_rfl) (fun _ _ _ h => h) (wn_t hF rfl rfl rfl rfl) hSS (yl_loadAt hF rfl rfl ag3 (fun _ h => rd_cell (j := 2) (enc := enc36) (Sat.rdRow h 0 rfl) enc36_len hx187 rfl rfl)) ?_
        clear hF; intro a hF
        refine ha_ld 23 hF rfl rfl rfl (by kernel_rfl) (by kernel_rfl) (by kernel_rfl) (by decide) (by kernel_rfl) (by kernel_rfl) (fun _ _ _ h => h) (wn_t hF rfl rfl rfl rfl) hSS (yl_loadAt hF rfl rfl ag3 (fun _ h => rd_cell0 (enc := enc36) (Sat.rdRow h 1 rfl) enc36_len hx182 rfl rfl)) ?_
        clear hF; intro a hF
        refine ha_yl 24 hF rfl rfl rfl (by kernel_rfl) (by kernel_rfl) (by kernel_rfl) (by decide) (fun _ _ _ h => h) (wn_t hF rfl rfl rfl rfl) (.inr hSS) (yl_bin hF rfl rfl rfl rfl (fun _ => run_eql)) ?_
        clear hF; intro a hF
        replace hF := fr_set (b' := true) hF (by have h8 := Option.some.inj (hx187.symm.trans hzg); have h7 := Option.some.inj (hx182.symm.trans hxg); rw [h8, h7, decide_eq_true_eq]; exact hzf)
        refine ha_yl 25 hF rfl rfl rfl (by kernel_rfl) (by kernel_rfl) (by kernel_rfl) (by decide) (fun _ _ _ h => h) (wn_none rfl) (.inr hSS) (yl_pick (u := _) (v := undef) hF rfl rfl (fun _ => rfl) (fun h => by cases h)) ?_
        clear hF; intro a hF
        refine ha_yl 26 hF rfl rfl rfl (by kernel_rfl) (by kernel_rfl) (by kernel_rfl) (by decide) (fun _ _ _ h => h) (wn_none rfl) (.inr hSS) (yl_move hF rfl rfl) ?_
        clear hF; intro a hF
        refine ha_one 27 (by kernel_rfl) rfl (wn_t hF rfl rfl rfl rfl) (wp_call (vs := []) hF rfl rfl rfl rfl cf24 (awake_any _) ?_)
        clear hF; rintro _ w ⟨rfl, hS1⟩ a hF
        replace hS := hS.callB hS1 rfl; clear hS1
        replace hSS := hS.sub [0, 5] (by decide) rfl (by simp)
        refine ⟨.inr hSS, ?_⟩
        refine ha_yl 28 hF rfl rfl rfl (by kernel_rfl) (by kernel_rfl) (by kernel_rfl) (by decide) (fun _ _ _ h => h) (wn_none rfl) (.inr hSS) (yl_pick (u := _) (v := undef) hF rfl rfl (fun _ => rfl) (fun h => by cases h)) ?_
        clear hF; intro a hF
        refine ha_yl 29 hF rfl rfl rfl (by kernel_rfl) (by kernel_rfl) (by kernel_rfl) (by decide) (fun _ _ _ h => h) (wn_none rfl) (.inr hSS) (yl_assign hF rfl rfl) ?_
        clear hF; intro a hF
        refine ha_done (by kernel_rfl) ?_ _
        refine then_n ?_
        refine wp_ret ?_
        refine ret_t hF rfl rfl ?_
        exact ⟨_, rfl, rfl, (hS.sub [] (by decide) (by first | rfl | simp) (by simp))⟩

end Go.Proofs.Ytiifpgkdgnoafaa

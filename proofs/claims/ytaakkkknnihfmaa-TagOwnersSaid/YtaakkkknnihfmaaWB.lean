/- walks, printed by wip/gen -/
import Derived.Test.YtaakkkknnihfmaaW6
import Derived.Test.YtaakkkknnihfmaaW7
namespace Go.Proofs.Ytaakkkknnihfmaa
open Go.RowKit
set_option linter.unusedVariables false
set_option linter.unusedSimpArgs false

set_option maxHeartbeats 2000000 in
set_option maxRecDepth 100000 in
theorem owners_any (n : Int) (v : Value) (L : List Int) (t : Int) (u : Bool) (w0 : World) (hv : Rd w0 1 v (L).length (cells encI (L))) (hL : L.length ≤ 9223372036854775807) :
    Fn Try.prog 6 #[.int .i64 n, v, .int .i64 t, .bool u] w0 (fun v w' => v = .bool true ∧ Sat w0 w' []) := by
  obtain ⟨Av, cv, rfl⟩ := Rd.form hv
  refine c_enter (N := 89) (l := [_, _, _, _]) Try.func6 rfl rfl (fun a w hF hS => ?_)
  replace hS := hS.addRo hv
  refine c_seq ?_
  refine c_region ?_
  refine seq_yl hF (wn_none rfl) rfl rfl (yl_assign hF rfl rfl) ?_
  clear hF; intro a hF
  refine wpList_nil ?_
  refine then_n ?_
  refine c_seq ?_
  refine c_region ?_
  refine seq_yl hF (wn_none rfl) rfl rfl (yl_move hF rfl rfl) ?_
  clear hF; intro a hF
  refine seq_yl hF (wn_none rfl) rfl rfl (yl_move hF rfl rfl) ?_
  clear hF; intro a hF
  refine seq_wp (wn_none rfl) (wp_call (vs := [_, _]) hF rfl rfl rfl rfl cf7 (made_any (n) _ L _ (hS.rdRo 0 rfl) (by first | omega | (simp; done) | (simp; omega))) ?_)
  clear hF; rintro _ w ⟨v481, M482, r483, c484, rfl, hv485, hn486, hS1⟩ a hF
  replace hS := hS.callB hS1 rfl; clear hS1
  obtain ⟨Av481, cv481, rfl⟩ := hS.form 0 rfl
  have hlhv485 := hv485.1
  refine seq_wp (wn_none rfl) (wp_alloc (cs := #[_, _, _]) hF hS rfl rfl rfl zr24 rfl ?_)
  clear hF hS; intro a w g487 hF hS
  refine seq_wp (wn_none rfl) (wp_store (cs' := #[_, _, _]) hF hS rfl rfl rfl rfl 0 rfl sz24 (by simp [Value.cells, Value.oneCell']) (by simp [Value.cells]) rfl ?_)
  clear hF hS; intro a w hF hS
  refine wpList_nil ?_
  refine then_n ?_
  refine c_seq ?_
  refine c_region ?_
  refine seq_yl hF (wn_none rfl) rfl rfl (yl_loadK (rs := [_, _, _]) (fun _ h => h ▸ hS) hF rfl rfl 0 rfl ag24 sz24 rfl rfl) ?_
  clear hF; intro a hF
  have hc488 := count_in M482 (r483) (c484) (-1)
  refine seq_wp (wn_none rfl) (wp_call (vs := [_]) hF rfl rfl rfl rfl cf10 (free1 _ M482 (r483) (c484) _ (hS.rdRow 1 rfl) (by first | omega | (simp; done) | (simp; omega))) ?_)
  clear hF; rintro _ w ⟨rfl, hS1⟩ a hF
  replace hS := hS.callB hS1 rfl; clear hS1
  refine seq_yl hF (wn_none rfl) rfl rfl (yl_assign hF rfl rfl) ?_
  clear hF; intro a hF
  refine wpList_nil ?_
  refine then_n ?_
  refine c_seq ?_
  refine c_seq ?_
  refine c_region ?_
  refine seq_yl hF (wn_none rfl) rfl rfl (yl_assign hF rfl rfl) ?_
  clear hF; intro a hF
  refine wpList_nil ?_
  refine then_n ?_
  refine wp_block ?_
  refine c_loop (fun m a w => ∃ (i : Nat) (s : Int), m = 5 - i ∧ (i ≤ 5 ∧ s = hs M482 r483 c484 i ∧ 0 ≤ s ∧ s ≤ 8 + 8 * (i : Int)) ∧ Fr 89 a [(2, .int .i64 (t)), (3, .bool u), (9, .pointer (some ⟨g487, 0, none⟩)), (10, .int .i64 (s)), (11, .int .i64 ((i : Nat) : Int))] ∧ Sat w0 w (.box g487 24 #[.slice Av481 (M482).length cv481, .int .i64 (r483), .int .i64 (c484)] :: .row 3 1 (.slice Av481 (M482).length cv481) (M482).length (cells encI (M482)) :: [])) (5 - 0) ?_ ?_
  · exact ⟨0, countF M482 r483 c484 (-1), rfl, ⟨by omega, rfl, by omega, by omega⟩, hF.to [2, 3, 9, 10, 11] rfl, (hS.sub [0, 1] (by decide) (by first | rfl | simp) (by simp))⟩
  · clear hF hS; try clear hSS
    clear a w; rintro m a w ⟨i, s, rfl, hinv, hF, hS⟩
    obtain ⟨hi, hsm, hs0, hs1⟩ := hinv
    refine c_seq ?_
    refine c_seq ?_
    refine c_region ?_
    refine seq_yl hF (wn_none rfl) rfl rfl (yl_move hF rfl rfl) ?_
    clear hF; intro a hF
    refine seq_yl hF (wn_none rfl) rfl rfl (yl_bin hF rfl rfl rfl rfl (fun _ => run_leq)) ?_
    clear hF; intro a hF
    refine wpList_nil ?_
    refine then_n ?_
    refine c_cond hF rfl (fun hc489 => ?_) (fun hc489 => ?_)
    · first | (replace hc489 := of_decide_eq_true hc489) | (replace hc489 := of_decide_eq_false (bnot_t hc489)) | (subst hc489) | (replace hc489 := bnot_t hc489; subst hc489) | (replace hc489 := bnot_t hc489) | skip
      refine wp_skip ?_
      refine then_n ?_
      refine c_seq ?_
      refine wp_block ?_
      refine c_region ?_
      refine seq_yl hF (wn_none rfl) rfl rfl (yl_move hF rfl rfl) ?_
      clear hF; intro a hF
      refine seq_yl hF (wn_none rfl) rfl rfl (yl_loadK (rs := [_, _, _]) (fun _ h => h ▸ hS) hF rfl rfl 0 rfl ag24 sz24 rfl rfl) ?_
      clear hF; intro a hF
      refine seq_yl hF (wn_none rfl) rfl rfl (yl_move hF rfl rfl) ?_
      clear hF; intro a hF
      have hc490 := held_in M482 (r483) (c484) ((i : Nat) : Int)
      refine seq_wp (wn_none rfl) (wp_call (vs := [_, _]) hF rfl rfl rfl rfl cf11 (held1 _ M482 (r483) (c484) ((i : Nat) : Int) _ (hS.rdRow 1 rfl) (by first | omega | (simp; done) | (simp; omega))) ?_)
      clear hF; rintro _ w ⟨rfl, hS1⟩ a hF
      replace hS := hS.callB hS1 rfl; clear hS1
      refine seq_yl hF (wn_none rfl) rfl rfl (yl_bin hF rfl rfl rfl rfl (fun _ => run_add (by refine ⟨?_, ?_⟩ <;> omega))) ?_
      clear hF; intro a hF
      refine seq_yl hF (wn_none rfl) rfl rfl (yl_assign hF rfl rfl) ?_
      clear hF; intro a hF
      refine wpList_nil ?_
      refine inb_n ?_
      refine then_n ?_
      refine c_region ?_
      refine seq_yl hF (wn_none rfl) rfl rfl (yl_move hF rfl rfl) ?_
      clear hF; intro a hF
      refine seq_yl hF (wn_none rfl) rfl rfl (yl_bin hF rfl rfl rfl rfl (fun _ => run_inc (by omega))) ?_
      clear hF; intro a hF
      refine seq_yl hF (wn_none rfl) rfl rfl (yl_assign hF rfl rfl) ?_
      clear hF; intro a hF
      refine wpList_nil ?_
      refine then_n ?_
      exact ⟨_, (by omega), i + 1, (s + heldF M482 r483 c484 ((i : Nat) : Int)), rfl, ⟨by omega, by rw [hsm]; rfl, by omega, by push_cast; omega⟩, hF.to [2, 3, 9, 10, 11] rfl, (hS.sub [0, 1] (by decide) (by first | rfl | simp) (by simp))⟩
    · first | (replace hc489 := of_decide_eq_false hc489) | (replace hc489 := of_decide_eq_true (bnot_f hc489)) | (subst hc489) | (replace hc489 := bnot_f hc489; subst hc489) | (replace hc489 := bnot_f hc489) | skip
      refine wp_exit ?_
      refine then_x ?_
      refine then_x ?_
      refine inb_x ?_
      refine then_n ?_
      refine c_seq ?_
      refine ha_startS hS [0] 13 (by kernel_rfl) ?_; clear hS; intro w hS
      have hSS := hS.sub [0] (by decide) rfl (by simp)
      refine ha_y 1 hF rfl rfl rfl (wn_none rfl) (.inr hSS) (yl_move hF rfl rfl) ?_
      clear hF; intro a hF
      refine ha_y 3 hF rfl rfl rfl (wn_none rfl) (.inr hSS) (yl_move hF rfl rfl) ?_
      clear hF; intro a hF
      refine ha_l 0 hF rfl rfl rfl (wn_none rfl) hSS (yl_loadK (rs := [_, _, _]) (fun _ h => h) hF rfl rfl 0 rfl ag24 sz24 rfl rfl) ?_
      clear hF; intro a hF
      refine ha_all (rs := [2, 9]) (by kernel_rfl) (by simp) ?_
      refine List.forall_mem_cons.2 ⟨?_, List.forall_mem_cons.2 ⟨?_, (fun _ h => by cases h)⟩⟩
      · skip
        have hr491 := rnd_bounds (t) (5 : Int) (by omega)
        refine ha_op 2 rfl (wn_none rfl) (wp_call (vs := [_, _]) hF rfl rfl rfl rfl cf8 (round_any (t) (5 : Int) _ (by omega)) ?_)
        clear hF; rintro _ w ⟨rfl, hS1⟩ a hF
        replace hS := hS.callB hS1 rfl; clear hS1
        replace hSS := hS.sub [0] (by decide) rfl (by simp)
        refine ⟨.inr hSS, ?_⟩
        refine ha_all (rs := [4, 9]) (by kernel_rfl) (by simp) ?_
        refine List.forall_mem_cons.2 ⟨?_, List.forall_mem_cons.2 ⟨?_, (fun _ h => by cases h)⟩⟩
        · skip
          refine ha_op 4 rfl (wn_none rfl) (wp_call (vs := [_, _, _]) hF rfl rfl rfl rfl cf9 (get1 _ M482 (r483) (c484) ((rnd (t) (5 : Int))) u _ (hS.rdRow 1 rfl) (by first | omega | (simp; done) | (simp; omega))) ?_)
          clear hF; rintro _ w ⟨v492, L493, k494, b495, rfl, hp496, hS1⟩ a hF
          replace hS := hS.callB hS1 rfl; clear hS1
          obtain ⟨Av492, cv492, rfl⟩ := hS.form 0 rfl
          have hlhp496 := get_len hp496
          have hsum : s = (M482.length : Int) := by rw [hsm, show i = 5 by omega]; exact hs_all hv485
          replace hSS := hS.sub [1] (by decide) rfl (by simp)
          refine ⟨.inr hSS, ?_⟩
          refine ha_y 5 hF rfl rfl rfl (wn_none rfl) (.inr hSS) (yl_move hF rfl rfl) ?_
          clear hF; intro a hF
          refine ha_y 6 hF rfl rfl rfl (wn_none rfl) (.inr hSS) (yl_extract hF rfl rfl rfl) ?_
          clear hF; intro a hF
          refine ha_y 7 hF rfl rfl rfl (wn_none rfl) (.inr hSS) (yl_extract hF rfl rfl rfl) ?_
          clear hF; intro a hF
          refine ha_y 8 hF rfl rfl rfl (wn_none rfl) (.inr hSS) (yl_extract hF rfl rfl rfl) ?_
          clear hF; intro a hF
          refine ha_one 9 (by kernel_rfl) rfl (wn_none rfl) (wp_alloc (cs := #[_, _, _]) hF hS rfl rfl rfl zr24 rfl ?_)
          clear hF hS; intro a w g497 hF hS
          replace hSS := hS.sub [2] (by decide) rfl (by simp)
          refine ⟨.inr hSS, ?_⟩
          refine ha_one 10 (by kernel_rfl) rfl (wn_none rfl) (wp_store (cs' := #[_, _, _]) hF hS rfl rfl rfl rfl 0 rfl sz24 (by simp [Value.cells, Value.oneCell']) (by simp [Value.cells]) rfl ?_)
          clear hF hS; intro a w hF hS
          replace hSS := hS.sub [2] (by decide) rfl (by simp)
          refine ⟨.inr hSS, ?_⟩
          refine ha_y 11 hF rfl rfl rfl (wn_none rfl) (.inr hSS) (yl_assign hF rfl rfl) ?_
          clear hF; intro a hF
          refine ha_y 12 hF rfl rfl rfl (wn_none rfl) (.inr hSS) (yl_assign hF rfl rfl) ?_
          clear hF; intro a hF
          refine ha_done (by kernel_rfl) ?_ _
          refine then_n ?_
          refine c_seq ?_
          refine c_seq ?_
          refine c_region ?_
          refine seq_yl hF (wn_none rfl) rfl rfl (yl_move hF rfl rfl) ?_
          clear hF; intro a hF
          refine seq_yl hF (wn_none rfl) rfl rfl (yl_un hF rfl rfl (fun _ => run_not)) ?_
          clear hF; intro a hF
          refine wpList_nil ?_
          refine then_n ?_
          refine c_cond hF rfl (fun hc498 => ?_) (fun hc498 => ?_)
          · first | (replace hc498 := of_decide_eq_true hc498) | (replace hc498 := of_decide_eq_false (bnot_t hc498)) | (subst hc498) | (replace hc498 := bnot_t hc498; subst hc498) | (replace hc498 := bnot_t hc498) | skip
            refine c_seq ?_
            refine c_region ?_
            obtain ⟨hq1, hq2⟩ := get_false hp496
            refine seq_yl hF (wn_none rfl) rfl rfl (yl_move hF rfl rfl) ?_
            clear hF; intro a hF
            refine seq_yl hF (wn_none rfl) rfl rfl (yl_fieldAddr hF rfl rfl (fun w => by kernel_rfl : ∀ w, (Instr.fieldAt 24 (.pointer (some ⟨g487, 0, none⟩)) 0).run Try.prog w = .ok (.pointer (some ⟨g487, 0, none⟩)) w)) ?_
            clear hF; intro a hF
            refine seq_yl hF (wn_none rfl) rfl rfl (yl_load (fun _ h => h ▸ hS) hF rfl rfl 2 rfl ag22 rfl) ?_
            clear hF; intro a hF
            refine seq_yl hF (wn_none rfl) rfl rfl (yl_len hF rfl rfl (fun _ => run_lenRd sl22 (hS.rdRow 3 rfl))) ?_
            clear hF; intro a hF
            refine seq_yl hF (wn_none rfl) rfl rfl (yl_bin hF rfl rfl rfl rfl (fun _ => run_eql)) ?_
            clear hF; intro a hF
            replace hF := fr_set (b' := true) hF (by rw [decide_eq_true_eq]; exact hsum)
            refine seq_yl hF (wn_none rfl) rfl rfl (yl_move hF rfl rfl) ?_
            clear hF; intro a hF
            refine seq_yl hF (wn_t hF rfl rfl rfl rfl) rfl rfl (yl_loadK (rs := [_, _, _]) (fun _ h => h ▸ hS) hF rfl rfl 0 rfl ag24 sz24 rfl rfl) ?_
            clear hF; intro a hF
            refine seq_yl hF (wn_t hF rfl rfl rfl rfl) rfl rfl (yl_loadK (rs := [_, _, _]) (fun _ h => h ▸ hS) hF rfl rfl 2 rfl ag24 sz24 rfl rfl) ?_
            clear hF; intro a hF
            refine seq_wp (wn_t hF rfl rfl rfl rfl) (wp_call (vs := [_, _]) hF rfl rfl rfl rfl cf20 (sameT _ _ L493 M482 (r483) (c484) (r483) (c484) _ (hS.rdRow 1 rfl) (hS.rdRow 3 rfl) (by first | omega | (simp; done) | (simp; omega)) (by first | omega | (simp; done) | (simp; omega))) ?_)
            clear hF; rintro _ w ⟨rfl, hS1⟩ a hF
            replace hS := hS.callB hS1 rfl; clear hS1
            replace hF := fr_set (b' := true) hF (by rw [decide_eq_true_eq]; exact ⟨hq1, rfl, rfl⟩)
            refine seq_yl hF (wn_none rfl) rfl rfl (yl_pick (u := _) (v := undef) hF rfl rfl (fun _ => rfl) (fun h => by cases h)) ?_
            clear hF; intro a hF
            refine seq_yl hF (wn_none rfl) rfl rfl (yl_move hF rfl rfl) ?_
            clear hF; intro a hF
            refine seq_yl hF (wn_t hF rfl rfl rfl rfl) rfl rfl (yl_move hF rfl rfl) ?_
            clear hF; intro a hF
            refine seq_yl hF (wn_t hF rfl rfl rfl rfl) rfl rfl (yl_bin hF rfl rfl rfl rfl (fun _ => run_eql)) ?_
            clear hF; intro a hF
            replace hF := fr_set (b' := true) hF (by rw [decide_eq_true_eq]; exact hq2)
            refine seq_yl hF (wn_none rfl) rfl rfl (yl_pick (u := _) (v := undef) hF rfl rfl (fun _ => rfl) (fun h => by cases h)) ?_
            clear hF; intro a hF
            refine seq_yl hF (wn_none rfl) rfl rfl (yl_move hF rfl rfl) ?_
            clear hF; intro a hF
            refine seq_wp (wn_t hF rfl rfl rfl rfl) (wp_call (vs := []) hF rfl rfl rfl rfl cf12 (awake_any _) ?_)
            clear hF; rintro _ w ⟨rfl, hS1⟩ a hF
            replace hS := hS.callB hS1 rfl; clear hS1
            refine seq_yl hF (wn_none rfl) rfl rfl (yl_pick (u := _) (v := undef) hF rfl rfl (fun _ => rfl) (fun h => by cases h)) ?_
            clear hF; intro a hF
            refine seq_yl hF (wn_none rfl) rfl rfl (yl_assign hF rfl rfl) ?_
            clear hF; intro a hF
            refine wpList_nil ?_
            refine then_n ?_
            refine wp_ret ?_
            refine then_r ?_
            refine ret_t hF rfl rfl ?_
            exact ⟨_, rfl, rfl, (hS.sub [] (by decide) (by first | rfl | simp) (by simp))⟩
          · first | (replace hc498 := of_decide_eq_false hc498) | (replace hc498 := of_decide_eq_true (bnot_f hc498)) | (subst hc498) | (replace hc498 := bnot_f hc498; subst hc498) | (replace hc498 := bnot_f hc498) | skip
            refine wp_skip ?_
            refine then_n ?_
            refine c_seq ?_
            refine c_region ?_
            refine seq_yl hF (wn_none rfl) rfl rfl (yl_loadK (rs := [_, _, _]) (fun _ h => h ▸ hS) hF rfl rfl 0 rfl ag24 sz24 rfl rfl) ?_
            clear hF; intro a hF
            refine seq_yl hF (wn_none rfl) rfl rfl (yl_move hF rfl rfl) ?_
            clear hF; intro a hF
            refine seq_wp (wn_none rfl) (wp_call (vs := [_, _]) hF rfl rfl rfl rfl cf16 (put1 _ L493 (r483) (c484) (k494) _ (hS.rdRow 1 rfl) (by first | omega | (simp; done) | (simp; omega))) ?_)
            clear hF; rintro _ w ⟨v499, L500, b501, rfl, hp502, hS1⟩ a hF
            replace hS := hS.callB hS1 rfl; clear hS1
            obtain ⟨Av499, cv499, rfl⟩ := hS.form 0 rfl
            have hlhp502 := put_len hp502
            obtain ⟨hb2, hL2⟩ := get_put hp496 hp502
            have hfg := free_get hp496
            refine seq_yl hF (wn_none rfl) rfl rfl (yl_move hF rfl rfl) ?_
            clear hF; intro a hF
            refine seq_yl hF (wn_none rfl) rfl rfl (yl_extract hF rfl rfl rfl) ?_
            clear hF; intro a hF
            refine seq_yl hF (wn_none rfl) rfl rfl (yl_extract hF rfl rfl rfl) ?_
            clear hF; intro a hF
            refine seq_wp (wn_none rfl) (wp_alloc (cs := #[_, _, _]) hF hS rfl rfl rfl zr24 rfl ?_)
            clear hF hS; intro a w g503 hF hS
            refine seq_wp (wn_none rfl) (wp_store (cs' := #[_, _, _]) hF hS rfl rfl rfl rfl 0 rfl sz24 (by simp [Value.cells, Value.oneCell']) (by simp [Value.cells]) rfl ?_)
            clear hF hS; intro a w hF hS
            refine seq_yl hF (wn_none rfl) rfl rfl (yl_assign hF rfl rfl) ?_
            clear hF; intro a hF
            refine wpList_nil ?_
            refine then_n ?_
            refine c_seq ?_
            refine ha_startS hS [4, 0, 2] 25 (by kernel_rfl) ?_; clear hS; intro w hS
            have hSS := hS.sub [4, 0, 2] (by decide) rfl (by simp)
            refine ha_y 0 hF rfl rfl rfl (wn_none rfl) (.inr hSS) (yl_move hF rfl rfl) ?_
            clear hF; intro a hF
            refine ha_y 1 hF rfl rfl rfl (wn_none rfl) (.inr hSS) (yl_fieldAddr hF rfl rfl (fun w => by kernel_rfl : ∀ w, (Instr.fieldAt 24 (.pointer (some ⟨g487, 0, none⟩)) 0).run Try.prog w = .ok (.pointer (some ⟨g487, 0, none⟩)) w)) ?_
            clear hF; intro a hF
            refine ha_l 2 hF rfl rfl rfl (wn_none rfl) hSS (yl_load (fun _ h => h) hF rfl rfl 0 rfl ag22 rfl) ?_
            clear hF; intro a hF
            refine ha_y 3 hF rfl rfl rfl (wn_none rfl) (.inr hSS) (yl_len hF rfl rfl (fun _ => run_lenRd sl22 (hS.rdRow 5 rfl))) ?_
            clear hF; intro a hF
            refine ha_y 4 hF rfl rfl rfl (wn_none rfl) (.inr hSS) (yl_bin hF rfl rfl rfl rfl (fun _ => run_eql)) ?_
            clear hF; intro a hF
            replace hF := fr_set (b' := true) hF (by rw [decide_eq_true_eq]; exact hsum)
            refine ha_y 5 hF rfl rfl rfl (wn_none rfl) (.inr hSS) (yl_move hF rfl rfl) ?_
            clear hF; intro a hF
            refine ha_y 6 hF rfl rfl rfl (wn_t hF rfl rfl rfl rfl) (.inr hSS) (yl_move hF rfl rfl) ?_
            clear hF; intro a hF
            replace hF := fr_set (b' := true) hF (hb2)
            refine ha_y 7 hF rfl rfl rfl (wn_none rfl) (.inr hSS) (yl_pick (u := _) (v := undef) hF rfl rfl (fun _ => rfl) (fun h => by cases h)) ?_
            clear hF; intro a hF
            refine ha_y 8 hF rfl rfl rfl (wn_none rfl) (.inr hSS) (yl_move hF rfl rfl) ?_
            clear hF; intro a hF
            refine ha_l 9 hF rfl rfl rfl (wn_t hF rfl rfl rfl rfl) hSS (yl_loadK (rs := [_, _, _]) (fun _ h => h) hF rfl rfl 1 rfl ag24 sz24 rfl rfl) ?_
            clear hF; intro a hF
            refine ha_l 10 hF rfl rfl rfl (wn_t hF rfl rfl rfl rfl) hSS (yl_loadK (rs := [_, _, _]) (fun _ h => h) hF rfl rfl 0 rfl ag24 sz24 rfl rfl) ?_
            clear hF; intro a hF
            refine ha_one 11 (by kernel_rfl) rfl (wn_t hF rfl rfl rfl rfl) (wp_call (vs := [_, _]) hF rfl rfl rfl rfl cf20 (sameT _ _ L500 M482 (r483) (c484) (r483) (c484) _ (hS.rdRow 1 rfl) (hS.rdRow 5 rfl) (by first | omega | (simp; done) | (simp; omega)) (by first | omega | (simp; done) | (simp; omega))) ?_)
            clear hF; rintro _ w ⟨rfl, hS1⟩ a hF
            replace hS := hS.callB hS1 rfl; clear hS1
            replace hSS := hS.sub [4, 0, 2] (by decide) rfl (by simp)
            refine ⟨.inr hSS, ?_⟩
            replace hF := fr_set (b' := true) hF (by rw [decide_eq_true_eq]; exact ⟨hL2, rfl, rfl⟩)
            refine ha_y 12 hF rfl rfl rfl (wn_none rfl) (.inr hSS) (yl_pick (u := _) (v := undef) hF rfl rfl (fun _ => rfl) (fun h => by cases h)) ?_
            clear hF; intro a hF
            refine ha_y 13 hF rfl rfl rfl (wn_none rfl) (.inr hSS) (yl_move hF rfl rfl) ?_
            clear hF; intro a hF
            refine ha_l 14 hF rfl rfl rfl (wn_t hF rfl rfl rfl rfl) hSS (yl_loadK (rs := [_, _, _]) (fun _ h => h) hF rfl rfl 2 rfl ag24 sz24 rfl rfl) ?_
            clear hF; intro a hF
            refine ha_l 16 hF rfl rfl rfl (wn_t hF rfl rfl rfl rfl) hSS (yl_loadK (rs := [_, _, _]) (fun _ h => h) hF rfl rfl 0 rfl ag24 sz24 rfl rfl) ?_
            clear hF; intro a hF
            have hc504 := count_in L493 (r483) (c484) (-1)
            refine ha_one 15 (by kernel_rfl) rfl (wn_t hF rfl rfl rfl rfl) (wp_call (vs := [_]) hF rfl rfl rfl rfl cf10 (free1 _ L493 (r483) (c484) _ (hS.rdRow 3 rfl) (by first | omega | (simp; done) | (simp; omega))) ?_)
            clear hF; rintro _ w ⟨rfl, hS1⟩ a hF
            replace hS := hS.callB hS1 rfl; clear hS1
            replace hSS := hS.sub [4, 0, 2] (by decide) rfl (by simp)
            refine ⟨.inr hSS, ?_⟩
            have hc505 := count_in M482 (r483) (c484) (-1)
            refine ha_one 17 (by kernel_rfl) rfl (wn_t hF rfl rfl rfl rfl) (wp_call (vs := [_]) hF rfl rfl rfl rfl cf10 (free1 _ M482 (r483) (c484) _ (hS.rdRow 5 rfl) (by first | omega | (simp; done) | (simp; omega))) ?_)
            clear hF; rintro _ w ⟨rfl, hS1⟩ a hF
            replace hS := hS.callB hS1 rfl; clear hS1
            replace hSS := hS.sub [4, 0, 2] (by decide) rfl (by simp)
            refine ⟨.inr hSS, ?_⟩
            refine ha_y 18 hF rfl rfl rfl (wn_t hF rfl rfl rfl rfl) (.inr hSS) (yl_bin hF rfl rfl rfl rfl (fun _ => run_sub (by refine ⟨?_, ?_⟩ <;> omega))) ?_
            clear hF; intro a hF
            refine ha_y 19 hF rfl rfl rfl (wn_t hF rfl rfl rfl rfl) (.inr hSS) (yl_bin hF rfl rfl rfl rfl (fun _ => run_eql)) ?_
            clear hF; intro a hF
            replace hF := fr_set (b' := true) hF (by rw [decide_eq_true_eq]; omega)
            refine ha_y 20 hF rfl rfl rfl (wn_none rfl) (.inr hSS) (yl_pick (u := _) (v := undef) hF rfl rfl (fun _ => rfl) (fun h => by cases h)) ?_
            clear hF; intro a hF
            refine ha_y 21 hF rfl rfl rfl (wn_none rfl) (.inr hSS) (yl_move hF rfl rfl) ?_
            clear hF; intro a hF
            refine ha_one 22 (by kernel_rfl) rfl (wn_t hF rfl rfl rfl rfl) (wp_call (vs := []) hF rfl rfl rfl rfl cf12 (awake_any _) ?_)
            clear hF; rintro _ w ⟨rfl, hS1⟩ a hF
            replace hS := hS.callB hS1 rfl; clear hS1
            replace hSS := hS.sub [4, 0, 2] (by decide) rfl (by simp)
            refine ⟨.inr hSS, ?_⟩
            refine ha_y 23 hF rfl rfl rfl (wn_none rfl) (.inr hSS) (yl_pick (u := _) (v := undef) hF rfl rfl (fun _ => rfl) (fun h => by cases h)) ?_
            clear hF; intro a hF
            refine ha_y 24 hF rfl rfl rfl (wn_none rfl) (.inr hSS) (yl_assign hF rfl rfl) ?_
            clear hF; intro a hF
            refine ha_done (by kernel_rfl) ?_ _
            refine then_n ?_
            refine wp_ret ?_
            refine ret_t hF rfl rfl ?_
            exact ⟨_, rfl, rfl, (hS.sub [] (by decide) (by first | rfl | simp) (by simp))⟩
        · skip
          refine ha_op 9 rfl (wn_none rfl) (wp_alloc (cs := #[_, _, _]) hF hS rfl rfl rfl zr24 rfl ?_)
          clear hF hS; intro a w g506 hF hS
          replace hSS := hS.sub [1] (by decide) rfl (by simp)
          refine ⟨.inr hSS, ?_⟩
          refine ha_one 4 (by kernel_rfl) rfl (wn_none rfl) (wp_call (vs := [_, _, _]) hF rfl rfl rfl rfl cf9 (get1 _ M482 (r483) (c484) ((rnd (t) (5 : Int))) u _ (hS.rdRow 2 rfl) (by first | omega | (simp; done) | (simp; omega))) ?_)
          clear hF; rintro _ w ⟨v507, L508, k509, b510, rfl, hp511, hS1⟩ a hF
          replace hS := hS.callB hS1 rfl; clear hS1
          obtain ⟨Av507, cv507, rfl⟩ := hS.form 0 rfl
          have hlhp511 := get_len hp511
          have hsum : s = (M482.length : Int) := by rw [hsm, show i = 5 by omega]; exact hs_all hv485
          replace hSS := hS.sub [2] (by decide) rfl (by simp)
          refine ⟨.inr hSS, ?_⟩
          refine ha_y 5 hF rfl rfl rfl (wn_none rfl) (.inr hSS) (yl_move hF rfl rfl) ?_
          clear hF; intro a hF
          refine ha_y 6 hF rfl rfl rfl (wn_none rfl) (.inr hSS) (yl_extract hF rfl rfl rfl) ?_
          clear hF; intro a hF
          refine ha_y 7 hF rfl rfl rfl (wn_none rfl) (.inr hSS) (yl_extract hF rfl rfl rfl) ?_
          clear hF; intro a hF
          refine ha_y 8 hF rfl rfl rfl (wn_none rfl) (.inr hSS) (yl_extract hF rfl rfl rfl) ?_
          clear hF; intro a hF
          refine ha_one 10 (by kernel_rfl) rfl (wn_none rfl) (wp_store (cs' := #[_, _, _]) hF hS rfl rfl rfl rfl 1 rfl sz24 (by simp [Value.cells, Value.oneCell']) (by simp [Value.cells]) rfl ?_)
          clear hF hS; intro a w hF hS
          replace hSS := hS.sub [2] (by decide) rfl (by simp)
          refine ⟨.inr hSS, ?_⟩
          refine ha_y 11 hF rfl rfl rfl (wn_none rfl) (.inr hSS) (yl_assign hF rfl rfl) ?_
          clear hF; intro a hF
          refine ha_y 12 hF rfl rfl rfl (wn_none rfl) (.inr hSS) (yl_assign hF rfl rfl) ?_
          clear hF; intro a hF
          refine ha_done (by kernel_rfl) ?_ _
          refine then_n ?_
          refine c_seq ?_
          refine c_seq ?_
          refine c_region ?_
          refine seq_yl hF (wn_none rfl) rfl rfl (yl_move hF rfl rfl) ?_
          clear hF; intro a hF
          refine seq_yl hF (wn_none rfl) rfl rfl (yl_un hF rfl rfl (fun _ => run_not)) ?_
          clear hF; intro a hF
          refine wpList_nil ?_
          refine then_n ?_
          refine c_cond hF rfl (fun hc512 => ?_) (fun hc512 => ?_)
          · first | (replace hc512 := of_decide_eq_true hc512) | (replace hc512 := of_decide_eq_false (bnot_t hc512)) | (subst hc512) | (replace hc512 := bnot_t hc512; subst hc512) | (replace hc512 := bnot_t hc512) | skip
            refine c_seq ?_
            refine c_region ?_
            obtain ⟨hq1, hq2⟩ := get_false hp511
            refine seq_yl hF (wn_none rfl) rfl rfl (yl_move hF rfl rfl) ?_
            clear hF; intro a hF
            refine seq_yl hF (wn_none rfl) rfl rfl (yl_fieldAddr hF rfl rfl (fun w => by kernel_rfl : ∀ w, (Instr.fieldAt 24 (.pointer (some ⟨g487, 0, none⟩)) 0).run Try.prog w = .ok (.pointer (some ⟨g487, 0, none⟩)) w)) ?_
            clear hF; intro a hF
            refine seq_yl hF (wn_none rfl) rfl rfl (yl_load (fun _ h => h ▸ hS) hF rfl rfl 2 rfl ag22 rfl) ?_
            clear hF; intro a hF
            refine seq_yl hF (wn_none rfl) rfl rfl (yl_len hF rfl rfl (fun _ => run_lenRd sl22 (hS.rdRow 3 rfl))) ?_
            clear hF; intro a hF
            refine seq_yl hF (wn_none rfl) rfl rfl (yl_bin hF rfl rfl rfl rfl (fun _ => run_eql)) ?_
            clear hF; intro a hF
            replace hF := fr_set (b' := true) hF (by rw [decide_eq_true_eq]; exact hsum)
            refine seq_yl hF (wn_none rfl) rfl rfl (yl_move hF rfl rfl) ?_
            clear hF; intro a hF
            refine seq_yl hF (wn_t hF rfl rfl rfl rfl) rfl rfl (yl_loadK (rs := [_, _, _]) (fun _ h => h ▸ hS) hF rfl rfl 1 rfl ag24 sz24 rfl rfl) ?_
            clear hF; intro a hF
            refine seq_yl hF (wn_t hF rfl rfl rfl rfl) rfl rfl (yl_loadK (rs := [_, _, _]) (fun _ h => h ▸ hS) hF rfl rfl 2 rfl ag24 sz24 rfl rfl) ?_
            clear hF; intro a hF
            refine seq_wp (wn_t hF rfl rfl rfl rfl) (wp_call (vs := [_, _]) hF rfl rfl rfl rfl cf20 (sameT _ _ L508 M482 (r483) (c484) (r483) (c484) _ (hS.rdRow 0 rfl) (hS.rdRow 3 rfl) (by first | omega | (simp; done) | (simp; omega)) (by first | omega | (simp; done) | (simp; omega))) ?_)
            clear hF; rintro _ w ⟨rfl, hS1⟩ a hF
            replace hS := hS.callB hS1 rfl; clear hS1
            replace hF := fr_set (b' := true) hF (by rw [decide_eq_true_eq]; exact ⟨hq1, rfl, rfl⟩)
            refine seq_yl hF (wn_none rfl) rfl rfl (yl_pick (u := _) (v := undef) hF rfl rfl (fun _ => rfl) (fun h => by cases h)) ?_
            clear hF; intro a hF
            refine seq_yl hF (wn_none rfl) rfl rfl (yl_move hF rfl rfl) ?_
            clear hF; intro a hF
            refine seq_yl hF (wn_t hF rfl rfl rfl rfl) rfl rfl (yl_move hF rfl rfl) ?_
            clear hF; intro a hF
            refine seq_yl hF (wn_t hF rfl rfl rfl rfl) rfl rfl (yl_bin hF rfl rfl rfl rfl (fun _ => run_eql)) ?_
            clear hF; intro a hF
            replace hF := fr_set (b' := true) hF (by rw [decide_eq_true_eq]; exact hq2)
            refine seq_yl hF (wn_none rfl) rfl rfl (yl_pick (u := _) (v := undef) hF rfl rfl (fun _ => rfl) (fun h => by cases h)) ?_
            clear hF; intro a hF
            refine seq_yl hF (wn_none rfl) rfl rfl (yl_move hF rfl rfl) ?_
            clear hF; intro a hF
            refine seq_wp (wn_t hF rfl rfl rfl rfl) (wp_call (vs := []) hF rfl rfl rfl rfl cf12 (awake_any _) ?_)
            clear hF; rintro _ w ⟨rfl, hS1⟩ a hF
            replace hS := hS.callB hS1 rfl; clear hS1
            refine seq_yl hF (wn_none rfl) rfl rfl (yl_pick (u := _) (v := undef) hF rfl rfl (fun _ => rfl) (fun h => by cases h)) ?_
            clear hF; intro a hF
            refine seq_yl hF (wn_none rfl) rfl rfl (yl_assign hF rfl rfl) ?_
            clear hF; intro a hF
            refine wpList_nil ?_
            refine then_n ?_
            refine wp_ret ?_
            refine then_r ?_
            refine ret_t hF rfl rfl ?_
            exact ⟨_, rfl, rfl, (hS.sub [] (by decide) (by first | rfl | simp) (by simp))⟩
          · first | (replace hc512 := of_decide_eq_false hc512) | (replace hc512 := of_decide_eq_true (bnot_f hc512)) | (subst hc512) | (replace hc512 := bnot_f hc512; subst hc512) | (replace hc512 := bnot_f hc512) | skip
            refine wp_skip ?_
            refine then_n ?_
            refine c_seq ?_
            refine c_region ?_
            refine seq_yl hF (wn_none rfl) rfl rfl (yl_loadK (rs := [_, _, _]) (fun _ h => h ▸ hS) hF rfl rfl 1 rfl ag24 sz24 rfl rfl) ?_
            clear hF; intro a hF
            refine seq_yl hF (wn_none rfl) rfl rfl (yl_move hF rfl rfl) ?_
            clear hF; intro a hF
            refine seq_wp (wn_none rfl) (wp_call (vs := [_, _]) hF rfl rfl rfl rfl cf16 (put1 _ L508 (r483) (c484) (k509) _ (hS.rdRow 0 rfl) (by first | omega | (simp; done) | (simp; omega))) ?_)
            clear hF; rintro _ w ⟨v513, L514, b515, rfl, hp516, hS1⟩ a hF
            replace hS := hS.callB hS1 rfl; clear hS1
            obtain ⟨Av513, cv513, rfl⟩ := hS.form 0 rfl
            have hlhp516 := put_len hp516
            obtain ⟨hb2, hL2⟩ := get_put hp511 hp516
            have hfg := free_get hp511
            refine seq_yl hF (wn_none rfl) rfl rfl (yl_move hF rfl rfl) ?_
            clear hF; intro a hF
            refine seq_yl hF (wn_none rfl) rfl rfl (yl_extract hF rfl rfl rfl) ?_
            clear hF; intro a hF
            refine seq_yl hF (wn_none rfl) rfl rfl (yl_extract hF rfl rfl rfl) ?_
            clear hF; intro a hF
            refine seq_wp (wn_none rfl) (wp_alloc (cs := #[_, _, _]) hF hS rfl rfl rfl zr24 rfl ?_)
            clear hF hS; intro a w g517 hF hS
            refine seq_wp (wn_none rfl) (wp_store (cs' := #[_, _, _]) hF hS rfl rfl rfl rfl 0 rfl sz24 (by simp [Value.cells, Value.oneCell']) (by simp [Value.cells]) rfl ?_)
            clear hF hS; intro a w hF hS
            refine seq_yl hF (wn_none rfl) rfl rfl (yl_assign hF rfl rfl) ?_
            clear hF; intro a hF
            refine wpList_nil ?_
            refine then_n ?_
            refine c_seq ?_
            refine ha_startS hS [4, 0, 3] 25 (by kernel_rfl) ?_; clear hS; intro w hS
            have hSS := hS.sub [4, 0, 3] (by decide) rfl (by simp)
            refine ha_y 0 hF rfl rfl rfl (wn_none rfl) (.inr hSS) (yl_move hF rfl rfl) ?_
            clear hF; intro a hF
            refine ha_y 1 hF rfl rfl rfl (wn_none rfl) (.inr hSS) (yl_fieldAddr hF rfl rfl (fun w => by kernel_rfl : ∀ w, (Instr.fieldAt 24 (.pointer (some ⟨g487, 0, none⟩)) 0).run Try.prog w = .ok (.pointer (some ⟨g487, 0, none⟩)) w)) ?_
            clear hF; intro a hF
            refine ha_l 2 hF rfl rfl rfl (wn_none rfl) hSS (yl_load (fun _ h => h) hF rfl rfl 0 rfl ag22 rfl) ?_
            clear hF; intro a hF
            refine ha_y 3 hF rfl rfl rfl (wn_none rfl) (.inr hSS) (yl_len hF rfl rfl (fun _ => run_lenRd sl22 (hS.rdRow 5 rfl))) ?_
            clear hF; intro a hF
            refine ha_y 4 hF rfl rfl rfl (wn_none rfl) (.inr hSS) (yl_bin hF rfl rfl rfl rfl (fun _ => run_eql)) ?_
            clear hF; intro a hF
            replace hF := fr_set (b' := true) hF (by rw [decide_eq_true_eq]; exact hsum)
            refine ha_y 5 hF rfl rfl rfl (wn_none rfl) (.inr hSS) (yl_move hF rfl rfl) ?_
            clear hF; intro a hF
            refine ha_y 6 hF rfl rfl rfl (wn_t hF rfl rfl rfl rfl) (.inr hSS) (yl_move hF rfl rfl) ?_
            clear hF; intro a hF
            replace hF := fr_set (b' := true) hF (hb2)
            refine ha_y 7 hF rfl rfl rfl (wn_none rfl) (.inr hSS) (yl_pick (u := _) (v := undef) hF rfl rfl (fun _ => rfl) (fun h => by cases h)) ?_
            clear hF; intro a hF
            refine ha_y 8 hF rfl rfl rfl (wn_none rfl) (.inr hSS) (yl_move hF rfl rfl) ?_
            clear hF; intro a hF
            refine ha_l 9 hF rfl rfl rfl (wn_t hF rfl rfl rfl rfl) hSS (yl_loadK (rs := [_, _, _]) (fun _ h => h) hF rfl rfl 1 rfl ag24 sz24 rfl rfl) ?_
            clear hF; intro a hF
            refine ha_l 10 hF rfl rfl rfl (wn_t hF rfl rfl rfl rfl) hSS (yl_loadK (rs := [_, _, _]) (fun _ h => h) hF rfl rfl 0 rfl ag24 sz24 rfl rfl) ?_
            clear hF; intro a hF
            refine ha_one 11 (by kernel_rfl) rfl (wn_t hF rfl rfl rfl rfl) (wp_call (vs := [_, _]) hF rfl rfl rfl rfl cf20 (sameT _ _ L514 M482 (r483) (c484) (r483) (c484) _ (hS.rdRow 1 rfl) (hS.rdRow 5 rfl) (by first | omega | (simp; done) | (simp; omega)) (by first | omega | (simp; done) | (simp; omega))) ?_)
            clear hF; rintro _ w ⟨rfl, hS1⟩ a hF
            replace hS := hS.callB hS1 rfl; clear hS1
            replace hSS := hS.sub [4, 0, 3] (by decide) rfl (by simp)
            refine ⟨.inr hSS, ?_⟩
            replace hF := fr_set (b' := true) hF (by rw [decide_eq_true_eq]; exact ⟨hL2, rfl, rfl⟩)
            refine ha_y 12 hF rfl rfl rfl (wn_none rfl) (.inr hSS) (yl_pick (u := _) (v := undef) hF rfl rfl (fun _ => rfl) (fun h => by cases h)) ?_
            clear hF; intro a hF
            refine ha_y 13 hF rfl rfl rfl (wn_none rfl) (.inr hSS) (yl_move hF rfl rfl) ?_
            clear hF; intro a hF
            refine ha_l 14 hF rfl rfl rfl (wn_t hF rfl rfl rfl rfl) hSS (yl_loadK (rs := [_, _, _]) (fun _ h => h) hF rfl rfl 2 rfl ag24 sz24 rfl rfl) ?_
            clear hF; intro a hF
            refine ha_l 16 hF rfl rfl rfl (wn_t hF rfl rfl rfl rfl) hSS (yl_loadK (rs := [_, _, _]) (fun _ h => h) hF rfl rfl 0 rfl ag24 sz24 rfl rfl) ?_
            clear hF; intro a hF
            have hc518 := count_in L508 (r483) (c484) (-1)
            refine ha_one 15 (by kernel_rfl) rfl (wn_t hF rfl rfl rfl rfl) (wp_call (vs := [_]) hF rfl rfl rfl rfl cf10 (free1 _ L508 (r483) (c484) _ (hS.rdRow 2 rfl) (by first | omega | (simp; done) | (simp; omega))) ?_)
            clear hF; rintro _ w ⟨rfl, hS1⟩ a hF
            replace hS := hS.callB hS1 rfl; clear hS1
            replace hSS := hS.sub [4, 0, 3] (by decide) rfl (by simp)
            refine ⟨.inr hSS, ?_⟩
            have hc519 := count_in M482 (r483) (c484) (-1)
            refine ha_one 17 (by kernel_rfl) rfl (wn_t hF rfl rfl rfl rfl) (wp_call (vs := [_]) hF rfl rfl rfl rfl cf10 (free1 _ M482 (r483) (c484) _ (hS.rdRow 5 rfl) (by first | omega | (simp; done) | (simp; omega))) ?_)
            clear hF; rintro _ w ⟨rfl, hS1⟩ a hF
            replace hS := hS.callB hS1 rfl; clear hS1
            replace hSS := hS.sub [4, 0, 3] (by decide) rfl (by simp)
            refine ⟨.inr hSS, ?_⟩
            refine ha_y 18 hF rfl rfl rfl (wn_t hF rfl rfl rfl rfl) (.inr hSS) (yl_bin hF rfl rfl rfl rfl (fun _ => run_sub (by refine ⟨?_, ?_⟩ <;> omega))) ?_
            clear hF; intro a hF
            refine ha_y 19 hF rfl rfl rfl (wn_t hF rfl rfl rfl rfl) (.inr hSS) (yl_bin hF rfl rfl rfl rfl (fun _ => run_eql)) ?_
            clear hF; intro a hF
            replace hF := fr_set (b' := true) hF (by rw [decide_eq_true_eq]; omega)
            refine ha_y 20 hF rfl rfl rfl (wn_none rfl) (.inr hSS) (yl_pick (u := _) (v := undef) hF rfl rfl (fun _ => rfl) (fun h => by cases h)) ?_
            clear hF; intro a hF
            refine ha_y 21 hF rfl rfl rfl (wn_none rfl) (.inr hSS) (yl_move hF rfl rfl) ?_
            clear hF; intro a hF
            refine ha_one 22 (by kernel_rfl) rfl (wn_t hF rfl rfl rfl rfl) (wp_call (vs := []) hF rfl rfl rfl rfl cf12 (awake_any _) ?_)
            clear hF; rintro _ w ⟨rfl, hS1⟩ a hF
            replace hS := hS.callB hS1 rfl; clear hS1
            replace hSS := hS.sub [4, 0, 3] (by decide) rfl (by simp)
            refine ⟨.inr hSS, ?_⟩
            refine ha_y 23 hF rfl rfl rfl (wn_none rfl) (.inr hSS) (yl_pick (u := _) (v := undef) hF rfl rfl (fun _ => rfl) (fun h => by cases h)) ?_
            clear hF; intro a hF
            refine ha_y 24 hF rfl rfl rfl (wn_none rfl) (.inr hSS) (yl_assign hF rfl rfl) ?_
            clear hF; intro a hF
            refine ha_done (by kernel_rfl) ?_ _
            refine then_n ?_
            refine wp_ret ?_
            refine ret_t hF rfl rfl ?_
            exact ⟨_, rfl, rfl, (hS.sub [] (by decide) (by first | rfl | simp) (by simp))⟩
      · skip
        refine ha_op 9 rfl (wn_none rfl) (wp_alloc (cs := #[_, _, _]) hF hS rfl rfl rfl zr24 rfl ?_)
        clear hF hS; intro a w g520 hF hS
        replace hSS := hS.sub [1] (by decide) rfl (by simp)
        refine ⟨.inr hSS, ?_⟩
        have hr521 := rnd_bounds (t) (5 : Int) (by omega)
        refine ha_one 2 (by kernel_rfl) rfl (wn_none rfl) (wp_call (vs := [_, _]) hF rfl rfl rfl rfl cf8 (round_any (t) (5 : Int) _ (by omega)) ?_)
        clear hF; rintro _ w ⟨rfl, hS1⟩ a hF
        replace hS := hS.callB hS1 rfl; clear hS1
        replace hSS := hS.sub [1] (by decide) rfl (by simp)
        refine ⟨.inr hSS, ?_⟩
        refine ha_one 4 (by kernel_rfl) rfl (wn_none rfl) (wp_call (vs := [_, _, _]) hF rfl rfl rfl rfl cf9 (get1 _ M482 (r483) (c484) ((rnd (t) (5 : Int))) u _ (hS.rdRow 2 rfl) (by first | omega | (simp; done) | (simp; omega))) ?_)
        clear hF; rintro _ w ⟨v522, L523, k524, b525, rfl, hp526, hS1⟩ a hF
        replace hS := hS.callB hS1 rfl; clear hS1
        obtain ⟨Av522, cv522, rfl⟩ := hS.form 0 rfl
        have hlhp526 := get_len hp526
        have hsum : s = (M482.length : Int) := by rw [hsm, show i = 5 by omega]; exact hs_all hv485
        replace hSS := hS.sub [2] (by decide) rfl (by simp)
        refine ⟨.inr hSS, ?_⟩
        refine ha_y 5 hF rfl rfl rfl (wn_none rfl) (.inr hSS) (yl_move hF rfl rfl) ?_
        clear hF; intro a hF
        refine ha_y 6 hF rfl rfl rfl (wn_none rfl) (.inr hSS) (yl_extract hF rfl rfl rfl) ?_
        clear hF; intro a hF
        refine ha_y 7 hF rfl rfl rfl (wn_none rfl) (.inr hSS) (yl_extract hF rfl rfl rfl) ?_
        clear hF; intro a hF
        refine ha_y 8 hF rfl rfl rfl (wn_none rfl) (.inr hSS) (yl_extract hF rfl rfl rfl) ?_
        clear hF; intro a hF
        refine ha_one 10 (by kernel_rfl) rfl (wn_none rfl) (wp_store (cs' := #[_, _, _]) hF hS rfl rfl rfl rfl 1 rfl sz24 (by simp [Value.cells, Value.oneCell']) (by simp [Value.cells]) rfl ?_)
        clear hF hS; intro a w hF hS
        replace hSS := hS.sub [2] (by decide) rfl (by simp)
        refine ⟨.inr hSS, ?_⟩
        refine ha_y 11 hF rfl rfl rfl (wn_none rfl) (.inr hSS) (yl_assign hF rfl rfl) ?_
        clear hF; intro a hF
        refine ha_y 12 hF rfl rfl rfl (wn_none rfl) (.inr hSS) (yl_assign hF rfl rfl) ?_
        clear hF; intro a hF
        refine ha_done (by kernel_rfl) ?_ _
        refine then_n ?_
        refine c_seq ?_
        refine c_seq ?_
        refine c_region ?_
        refine seq_yl hF (wn_none rfl) rfl rfl (yl_move hF rfl rfl) ?_
        clear hF; intro a hF
        refine seq_yl hF (wn_none rfl) rfl rfl (yl_un hF rfl rfl (fun _ => run_not)) ?_
        clear hF; intro a hF
        refine wpList_nil ?_
        refine then_n ?_
        refine c_cond hF rfl (fun hc527 => ?_) (fun hc527 => ?_)
        · first | (replace hc527 := of_decide_eq_true hc527) | (replace hc527 := of_decide_eq_false (bnot_t hc527)) | (subst hc527) | (replace hc527 := bnot_t hc527; subst hc527) | (replace hc527 := bnot_t hc527) | skip
          refine c_seq ?_
          refine c_region ?_
          obtain ⟨hq1, hq2⟩ := get_false hp526
          refine seq_yl hF (wn_none rfl) rfl rfl (yl_move hF rfl rfl) ?_
          clear hF; intro a hF
          refine seq_yl hF (wn_none rfl) rfl rfl (yl_fieldAddr hF rfl rfl (fun w => by kernel_rfl : ∀ w, (Instr.fieldAt 24 (.pointer (some ⟨g487, 0, none⟩)) 0).run Try.prog w = .ok (.pointer (some ⟨g487, 0, none⟩)) w)) ?_
          clear hF; intro a hF
          refine seq_yl hF (wn_none rfl) rfl rfl (yl_load (fun _ h => h ▸ hS) hF rfl rfl 2 rfl ag22 rfl) ?_
          clear hF; intro a hF
          refine seq_yl hF (wn_none rfl) rfl rfl (yl_len hF rfl rfl (fun _ => run_lenRd sl22 (hS.rdRow 3 rfl))) ?_
          clear hF; intro a hF
          refine seq_yl hF (wn_none rfl) rfl rfl (yl_bin hF rfl rfl rfl rfl (fun _ => run_eql)) ?_
          clear hF; intro a hF
          replace hF := fr_set (b' := true) hF (by rw [decide_eq_true_eq]; exact hsum)
          refine seq_yl hF (wn_none rfl) rfl rfl (yl_move hF rfl rfl) ?_
          clear hF; intro a hF
          refine seq_yl hF (wn_t hF rfl rfl rfl rfl) rfl rfl (yl_loadK (rs := [_, _, _]) (fun _ h => h ▸ hS) hF rfl rfl 1 rfl ag24 sz24 rfl rfl) ?_
          clear hF; intro a hF
          refine seq_yl hF (wn_t hF rfl rfl rfl rfl) rfl rfl (yl_loadK (rs := [_, _, _]) (fun _ h => h ▸ hS) hF rfl rfl 2 rfl ag24 sz24 rfl rfl) ?_
          clear hF; intro a hF
          refine seq_wp (wn_t hF rfl rfl rfl rfl) (wp_call (vs := [_, _]) hF rfl rfl rfl rfl cf20 (sameT _ _ L523 M482 (r483) (c484) (r483) (c484) _ (hS.rdRow 0 rfl) (hS.rdRow 3 rfl) (by first | omega | (simp; done) | (simp; omega)) (by first | omega | (simp; done) | (simp; omega))) ?_)
          clear hF; rintro _ w ⟨rfl, hS1⟩ a hF
          replace hS := hS.callB hS1 rfl; clear hS1
          replace hF := fr_set (b' := true) hF (by rw [decide_eq_true_eq]; exact ⟨hq1, rfl, rfl⟩)
          refine seq_yl hF (wn_none rfl) rfl rfl (yl_pick (u := _) (v := undef) hF rfl rfl (fun _ => rfl) (fun h => by cases h)) ?_
          clear hF; intro a hF
          refine seq_yl hF (wn_none rfl) rfl rfl (yl_move hF rfl rfl) ?_
          clear hF; intro a hF
          refine seq_yl hF (wn_t hF rfl rfl rfl rfl) rfl rfl (yl_move hF rfl rfl) ?_
          clear hF; intro a hF
          refine seq_yl hF (wn_t hF rfl rfl rfl rfl) rfl rfl (yl_bin hF rfl rfl rfl rfl (fun _ => run_eql)) ?_
          clear hF; intro a hF
          replace hF := fr_set (b' := true) hF (by rw [decide_eq_true_eq]; exact hq2)
          refine seq_yl hF (wn_none rfl) rfl rfl (yl_pick (u := _) (v := undef) hF rfl rfl (fun _ => rfl) (fun h => by cases h)) ?_
          clear hF; intro a hF
          refine seq_yl hF (wn_none rfl) rfl rfl (yl_move hF rfl rfl) ?_
          clear hF; intro a hF
          refine seq_wp (wn_t hF rfl rfl rfl rfl) (wp_call (vs := []) hF rfl rfl rfl rfl cf12 (awake_any _) ?_)
          clear hF; rintro _ w ⟨rfl, hS1⟩ a hF
          replace hS := hS.callB hS1 rfl; clear hS1
          refine seq_yl hF (wn_none rfl) rfl rfl (yl_pick (u := _) (v := undef) hF rfl rfl (fun _ => rfl) (fun h => by cases h)) ?_
          clear hF; intro a hF
          refine seq_yl hF (wn_none rfl) rfl rfl (yl_assign hF rfl rfl) ?_
          clear hF; intro a hF
          refine wpList_nil ?_
          refine then_n ?_
          refine wp_ret ?_
          refine then_r ?_
          refine ret_t hF rfl rfl ?_
          exact ⟨_, rfl, rfl, (hS.sub [] (by decide) (by first | rfl | simp) (by simp))⟩
        · first | (replace hc527 := of_decide_eq_false hc527) | (replace hc527 := of_decide_eq_true (bnot_f hc527)) | (subst hc527) | (replace hc527 := bnot_f hc527; subst hc527) | (replace hc527 := bnot_f hc527) | skip
          refine wp_skip ?_
          refine then_n ?_
          refine c_seq ?_
          refine c_region ?_
          refine seq_yl hF (wn_none rfl) rfl rfl (yl_loadK (rs := [_, _, _]) (fun _ h => h ▸ hS) hF rfl rfl 1 rfl ag24 sz24 rfl rfl) ?_
          clear hF; intro a hF
          refine seq_yl hF (wn_none rfl) rfl rfl (yl_move hF rfl rfl) ?_
          clear hF; intro a hF
          refine seq_wp (wn_none rfl) (wp_call (vs := [_, _]) hF rfl rfl rfl rfl cf16 (put1 _ L523 (r483) (c484) (k524) _ (hS.rdRow 0 rfl) (by first | omega | (simp; done) | (simp; omega))) ?_)
          clear hF; rintro _ w ⟨v528, L529, b530, rfl, hp531, hS1⟩ a hF
          replace hS := hS.callB hS1 rfl; clear hS1
          obtain ⟨Av528, cv528, rfl⟩ := hS.form 0 rfl
          have hlhp531 := put_len hp531
          obtain ⟨hb2, hL2⟩ := get_put hp526 hp531
          have hfg := free_get hp526
          refine seq_yl hF (wn_none rfl) rfl rfl (yl_move hF rfl rfl) ?_
          clear hF; intro a hF
          refine seq_yl hF (wn_none rfl) rfl rfl (yl_extract hF rfl rfl rfl) ?_
          clear hF; intro a hF
          refine seq_yl hF (wn_none rfl) rfl rfl (yl_extract hF rfl rfl rfl) ?_
          clear hF; intro a hF
          refine seq_wp (wn_none rfl) (wp_alloc (cs := #[_, _, _]) hF hS rfl rfl rfl zr24 rfl ?_)
          clear hF hS; intro a w g532 hF hS
          refine seq_wp (wn_none rfl) (wp_store (cs' := #[_, _, _]) hF hS rfl rfl rfl rfl 0 rfl sz24 (by simp [Value.cells, Value.oneCell']) (by simp [Value.cells]) rfl ?_)
          clear hF hS; intro a w hF hS
          refine seq_yl hF (wn_none rfl) rfl rfl (yl_assign hF rfl rfl) ?_
          clear hF; intro a hF
          refine wpList_nil ?_
          refine then_n ?_
          refine c_seq ?_
          refine ha_startS hS [4, 0, 3] 25 (by kernel_rfl) ?_; clear hS; intro w hS
          have hSS := hS.sub [4, 0, 3] (by decide) rfl (by simp)
          refine ha_y 0 hF rfl rfl rfl (wn_none rfl) (.inr hSS) (yl_move hF rfl rfl) ?_
          clear hF; intro a hF
          refine ha_y 1 hF rfl rfl rfl (wn_none rfl) (.inr hSS) (yl_fieldAddr hF rfl rfl (fun w => by kernel_rfl : ∀ w, (Instr.fieldAt 24 (.pointer (some ⟨g487, 0, none⟩)) 0).run Try.prog w = .ok (.pointer (some ⟨g487, 0, none⟩)) w)) ?_
          clear hF; intro a hF
          refine ha_l 2 hF rfl rfl rfl (wn_none rfl) hSS (yl_load (fun _ h => h) hF rfl rfl 0 rfl ag22 rfl) ?_
          clear hF; intro a hF
          refine ha_y 3 hF rfl rfl rfl (wn_none rfl) (.inr hSS) (yl_len hF rfl rfl (fun _ => run_lenRd sl22 (hS.rdRow 5 rfl))) ?_
          clear hF; intro a hF
          refine ha_y 4 hF rfl rfl rfl (wn_none rfl) (.inr hSS) (yl_bin hF rfl rfl rfl rfl (fun _ => run_eql)) ?_
          clear hF; intro a hF
          replace hF := fr_set (b' := true) hF (by rw [decide_eq_true_eq]; exact hsum)
          refine ha_y 5 hF rfl rfl rfl (wn_none rfl) (.inr hSS) (yl_move hF rfl rfl) ?_
          clear hF; intro a hF
          refine ha_y 6 hF rfl rfl rfl (wn_t hF rfl rfl rfl rfl) (.inr hSS) (yl_move hF rfl rfl) ?_
          clear hF; intro a hF
          replace hF := fr_set (b' := true) hF (hb2)
          refine ha_y 7 hF rfl rfl rfl (wn_none rfl) (.inr hSS) (yl_pick (u := _) (v := undef) hF rfl rfl (fun _ => rfl) (fun h => by cases h)) ?_
          clear hF; intro a hF
          refine ha_y 8 hF rfl rfl rfl (wn_none rfl) (.inr hSS) (yl_move hF rfl rfl) ?_
          clear hF; intro a hF
          refine ha_l 9 hF rfl rfl rfl (wn_t hF rfl rfl rfl rfl) hSS (yl_loadK (rs := [_, _, _]) (fun _ h => h) hF rfl rfl 1 rfl ag24 sz24 rfl rfl) ?_
          clear hF; intro a hF
          refine ha_l 10 hF rfl rfl rfl (wn_t hF rfl rfl rfl rfl) hSS (yl_loadK (rs := [_, _, _]) (fun _ h => h) hF rfl rfl 0 rfl ag24 sz24 rfl rfl) ?_
          clear hF; intro a hF
          refine ha_one 11 (by kernel_rfl) rfl (wn_t hF rfl rfl rfl rfl) (wp_call (vs := [_, _]) hF rfl rfl rfl rfl cf20 (sameT _ _ L529 M482 (r483) (c484) (r483) (c484) _ (hS.rdRow 1 rfl) (hS.rdRow 5 rfl) (by first | omega | (simp; done) | (simp; omega)) (by first | omega | (simp; done) | (simp; omega))) ?_)
          clear hF; rintro _ w ⟨rfl, hS1⟩ a hF
          replace hS := hS.callB hS1 rfl; clear hS1
          replace hSS := hS.sub [4, 0, 3] (by decide) rfl (by simp)
          refine ⟨.inr hSS, ?_⟩
          replace hF := fr_set (b' := true) hF (by rw [decide_eq_true_eq]; exact ⟨hL2, rfl, rfl⟩)
          refine ha_y 12 hF rfl rfl rfl (wn_none rfl) (.inr hSS) (yl_pick (u := _) (v := undef) hF rfl rfl (fun _ => rfl) (fun h => by cases h)) ?_
          clear hF; intro a hF
          refine ha_y 13 hF rfl rfl rfl (wn_none rfl) (.inr hSS) (yl_move hF rfl rfl) ?_
          clear hF; intro a hF
          refine ha_l 14 hF rfl rfl rfl (wn_t hF rfl rfl rfl rfl) hSS (yl_loadK (rs := [_, _, _]) (fun _ h => h) hF rfl rfl 2 rfl ag24 sz24 rfl rfl) ?_
          clear hF; intro a hF
          refine ha_l 16 hF rfl rfl rfl (wn_t hF rfl rfl rfl rfl) hSS (yl_loadK (rs := [_, _, _]) (fun _ h => h) hF rfl rfl 0 rfl ag24 sz24 rfl rfl) ?_
          clear hF; intro a hF
          have hc533 := count_in L523 (r483) (c484) (-1)
          refine ha_one 15 (by kernel_rfl) rfl (wn_t hF rfl rfl rfl rfl) (wp_call (vs := [_]) hF rfl rfl rfl rfl cf10 (free1 _ L523 (r483) (c484) _ (hS.rdRow 2 rfl) (by first | omega | (simp; done) | (simp; omega))) ?_)
          clear hF; rintro _ w ⟨rfl, hS1⟩ a hF
          replace hS := hS.callB hS1 rfl; clear hS1
          replace hSS := hS.sub [4, 0, 3] (by decide) rfl (by simp)
          refine ⟨.inr hSS, ?_⟩
          have hc534 := count_in M482 (r483) (c484) (-1)
          refine ha_one 17 (by kernel_rfl) rfl (wn_t hF rfl rfl rfl rfl) (wp_call (vs := [_]) hF rfl rfl rfl rfl cf10 (free1 _ M482 (r483) (c484) _ (hS.rdRow 5 rfl) (by first | omega | (simp; done) | (simp; omega))) ?_)
          clear hF; rintro _ w ⟨rfl, hS1⟩ a hF
          replace hS := hS.callB hS1 rfl; clear hS1
          replace hSS := hS.sub [4, 0, 3] (by decide) rfl (by simp)
          refine ⟨.inr hSS, ?_⟩
          refine ha_y 18 hF rfl rfl rfl (wn_t hF rfl rfl rfl rfl) (.inr hSS) (yl_bin hF rfl rfl rfl rfl (fun _ => run_sub (by refine ⟨?_, ?_⟩ <;> omega))) ?_
          clear hF; intro a hF
          refine ha_y 19 hF rfl rfl rfl (wn_t hF rfl rfl rfl rfl) (.inr hSS) (yl_bin hF rfl rfl rfl rfl (fun _ => run_eql)) ?_
          clear hF; intro a hF
          replace hF := fr_set (b' := true) hF (by rw [decide_eq_true_eq]; omega)
          refine ha_y 20 hF rfl rfl rfl (wn_none rfl) (.inr hSS) (yl_pick (u := _) (v := undef) hF rfl rfl (fun _ => rfl) (fun h => by cases h)) ?_
          clear hF; intro a hF
          refine ha_y 21 hF rfl rfl rfl (wn_none rfl) (.inr hSS) (yl_move hF rfl rfl) ?_
          clear hF; intro a hF
          refine ha_one 22 (by kernel_rfl) rfl (wn_t hF rfl rfl rfl rfl) (wp_call (vs := []) hF rfl rfl rfl rfl cf12 (awake_any _) ?_)
          clear hF; rintro _ w ⟨rfl, hS1⟩ a hF
          replace hS := hS.callB hS1 rfl; clear hS1
          replace hSS := hS.sub [4, 0, 3] (by decide) rfl (by simp)
          refine ⟨.inr hSS, ?_⟩
          refine ha_y 23 hF rfl rfl rfl (wn_none rfl) (.inr hSS) (yl_pick (u := _) (v := undef) hF rfl rfl (fun _ => rfl) (fun h => by cases h)) ?_
          clear hF; intro a hF
          refine ha_y 24 hF rfl rfl rfl (wn_none rfl) (.inr hSS) (yl_assign hF rfl rfl) ?_
          clear hF; intro a hF
          refine ha_done (by kernel_rfl) ?_ _
          refine then_n ?_
          refine wp_ret ?_
          refine ret_t hF rfl rfl ?_
          exact ⟨_, rfl, rfl, (hS.sub [] (by decide) (by first | rfl | simp) (by simp))⟩

end Go.Proofs.Ytaakkkknnihfmaa

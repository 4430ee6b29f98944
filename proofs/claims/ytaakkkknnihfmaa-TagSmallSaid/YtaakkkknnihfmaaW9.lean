/- walks, printed by wip/gen -/
import Derived.Test.YtaakkkknnihfmaaW6
import Derived.Test.YtaakkkknnihfmaaW7
namespace Go.Proofs.Ytaakkkknnihfmaa
open Go.RowKit
set_option linter.unusedVariables false
set_option linter.unusedSimpArgs false

set_option maxHeartbeats 2000000 in
set_option maxRecDepth 100000 in
theorem small_any (n : Int) (v : Value) (L : List Int) (t k : Int) (w0 : World) (hv : Rd w0 1 v (L).length (cells encI (L))) (hL : L.length ≤ 9223372036854775807) :
    Fn Try.prog 5 #[.int .i64 n, v, .int .i64 t, .int .i64 k] w0 (fun v w' => v = .bool true ∧ Sat w0 w' []) := by
  obtain ⟨Av, cv, rfl⟩ := Rd.form hv
  refine c_enter (N := 111) (l := [_, _, _, _]) Try.func5 rfl rfl (fun a w hF hS => ?_)
  replace hS := hS.addRo hv
  refine c_seq ?_
  refine c_region ?_
  refine seq_yl hF (wn_none rfl) rfl rfl (yl_assign hF rfl rfl) ?_
  clear hF; intro a hF
  refine wpList_nil ?_
  refine then_n ?_
  refine c_seq ?_
  refine c_region ?_
  refine seq_yl hF (wn_none rfl) rfl rfl (yl_move hF rfl rfl) ?_
  clear hF; intro a hF
  refine seq_yl hF (wn_none rfl) rfl rfl (yl_move hF rfl rfl) ?_
  clear hF; intro a hF
  refine seq_wp (wn_none rfl) (wp_call (vs := [_, _]) hF rfl rfl rfl rfl cf7 (made_any (n) _ L _ (hS.rdRo 0 rfl) (by first | omega | (simp; done) | (simp; omega))) ?_)
  clear hF; rintro _ w ⟨v294, M295, r296, c297, rfl, hv298, hn299, hS1⟩ a hF
  replace hS := hS.callB hS1 rfl; clear hS1
  obtain ⟨Av294, cv294, rfl⟩ := hS.form 0 rfl
  have hlhv298 := hv298.1
  refine seq_wp (wn_none rfl) (wp_alloc (cs := #[_, _, _]) hF hS rfl rfl rfl zr24 rfl ?_)
  clear hF hS; intro a w g300 hF hS
  refine seq_wp (wn_none rfl) (wp_store (cs' := #[_, _, _]) hF hS rfl rfl rfl rfl 0 rfl sz24 (by simp [Value.cells, Value.oneCell']) (by simp [Value.cells]) rfl ?_)
  clear hF hS; intro a w hF hS
  refine wpList_nil ?_
  refine then_n ?_
  refine c_seq ?_
  refine c_region ?_
  refine seq_yl hF (wn_none rfl) rfl rfl (yl_move hF rfl rfl) ?_
  clear hF; intro a hF
  have hr301 := rnd_bounds (t) (7 : Int) (by omega)
  refine seq_wp (wn_none rfl) (wp_call (vs := [_, _]) hF rfl rfl rfl rfl cf8 (round_any (t) (7 : Int) _ (by omega)) ?_)
  clear hF; rintro _ w ⟨rfl, hS1⟩ a hF
  replace hS := hS.callB hS1 rfl; clear hS1
  refine seq_yl hF (wn_none rfl) rfl rfl (yl_bin hF rfl rfl rfl rfl (fun _ => run_sub (by refine ⟨?_, ?_⟩ <;> omega))) ?_
  clear hF; intro a hF
  refine seq_yl hF (wn_none rfl) rfl rfl (yl_assign hF rfl rfl) ?_
  clear hF; intro a hF
  refine wpList_nil ?_
  refine then_n ?_
  refine c_seq ?_
  refine c_seq ?_
  refine c_region ?_
  refine seq_yl hF (wn_none rfl) rfl rfl (yl_assign hF rfl rfl) ?_
  clear hF; intro a hF
  refine wpList_nil ?_
  refine then_n ?_
  refine wp_block ?_
  refine c_loop (fun m a w => ∃ (i : Nat), m = 2 - i ∧ (i ≤ 2) ∧ Fr 111 a [(3, .int .i64 (k)), (9, .pointer (some ⟨g300, 0, none⟩)), (10, .int .i64 ((((rnd (t) (7 : Int))) - (1 : Int)))), (11, .int .i64 ((i : Nat) : Int))] ∧ Sat w0 w (.box g300 24 #[.slice Av294 (M295).length cv294, .int .i64 (r296), .int .i64 (c297)] :: .row 3 1 (.slice Av294 (M295).length cv294) (M295).length (cells encI (M295)) :: [])) (2 - 0) ?_ ?_
  · exact ⟨0, rfl, (by omega), hF.to [3, 9, 10, 11] rfl, (hS.sub [0, 1] (by decide) (by first | rfl | simp) (by simp))⟩
  · clear hF hS; try clear hSS
    clear a w; rintro m a w ⟨i, rfl, hinv, hF, hS⟩
    have hi := hinv
    refine c_seq ?_
    refine c_seq ?_
    refine c_region ?_
    refine seq_yl hF (wn_none rfl) rfl rfl (yl_move hF rfl rfl) ?_
    clear hF; intro a hF
    refine seq_yl hF (wn_none rfl) rfl rfl (yl_bin hF rfl rfl rfl rfl (fun _ => run_lss)) ?_
    clear hF; intro a hF
    refine wpList_nil ?_
    refine then_n ?_
    refine c_cond hF rfl (fun hc302 => ?_) (fun hc302 => ?_)
    · first | (replace hc302 := of_decide_eq_true hc302) | (replace hc302 := of_decide_eq_false (bnot_t hc302)) | (subst hc302) | (replace hc302 := bnot_t hc302; subst hc302) | (replace hc302 := bnot_t hc302) | skip
      refine wp_skip ?_
      refine then_n ?_
      refine c_seq ?_
      refine wp_block ?_
      refine c_seq ?_
      refine c_region ?_
      refine seq_yl hF (wn_none rfl) rfl rfl (yl_loadK (rs := [_, _, _]) (fun _ h => h ▸ hS) hF rfl rfl 0 rfl ag24 sz24 rfl rfl) ?_
      clear hF; intro a hF
      refine seq_yl hF (wn_none rfl) rfl rfl (yl_move hF rfl rfl) ?_
      clear hF; intro a hF
      refine seq_yl hF (wn_none rfl) rfl rfl (yl_move hF rfl rfl) ?_
      clear hF; intro a hF
      refine seq_yl hF (wn_none rfl) rfl rfl (yl_bin hF rfl rfl rfl rfl (fun _ => run_eql)) ?_
      clear hF; intro a hF
      refine seq_wp (wn_none rfl) (wp_call (vs := [_, _, _]) hF rfl rfl rfl rfl cf9 (get1 _ M295 (r296) (c297) ((((rnd (t) (7 : Int))) - (1 : Int))) (decide (((i : Nat) : Int) = (1 : Int))) _ (hS.rdRow 1 rfl) (by first | omega | (simp; done) | (simp; omega))) ?_)
      clear hF; rintro _ w ⟨v303, L304, k305, b306, rfl, hp307, hS1⟩ a hF
      replace hS := hS.callB hS1 rfl; clear hS1
      obtain ⟨Av303, cv303, rfl⟩ := hS.form 0 rfl
      have hlhp307 := get_len hp307
      refine seq_yl hF (wn_none rfl) rfl rfl (yl_move hF rfl rfl) ?_
      clear hF; intro a hF
      refine seq_yl hF (wn_none rfl) rfl rfl (yl_extract hF rfl rfl rfl) ?_
      clear hF; intro a hF
      refine seq_yl hF (wn_none rfl) rfl rfl (yl_extract hF rfl rfl rfl) ?_
      clear hF; intro a hF
      refine seq_yl hF (wn_none rfl) rfl rfl (yl_extract hF rfl rfl rfl) ?_
      clear hF; intro a hF
      refine seq_wp (wn_none rfl) (wp_alloc (cs := #[_, _, _]) hF hS rfl rfl rfl zr24 rfl ?_)
      clear hF hS; intro a w g308 hF hS
      refine seq_wp (wn_none rfl) (wp_store (cs' := #[_, _, _]) hF hS rfl rfl rfl rfl 0 rfl sz24 (by simp [Value.cells, Value.oneCell']) (by simp [Value.cells]) rfl ?_)
      clear hF hS; intro a w hF hS
      refine seq_yl hF (wn_none rfl) rfl rfl (yl_assign hF rfl rfl) ?_
      clear hF; intro a hF
      refine seq_yl hF (wn_none rfl) rfl rfl (yl_assign hF rfl rfl) ?_
      clear hF; intro a hF
      refine wpList_nil ?_
      refine then_n ?_
      refine c_seq ?_
      refine c_region ?_
      refine seq_yl hF (wn_none rfl) rfl rfl (yl_loadK (rs := [_, _, _]) (fun _ h => h ▸ hS) hF rfl rfl 2 rfl ag24 sz24 rfl rfl) ?_
      clear hF; intro a hF
      refine seq_yl hF (wn_none rfl) rfl rfl (yl_move hF rfl rfl) ?_
      clear hF; intro a hF
      refine seq_yl hF (wn_none rfl) rfl rfl (yl_move hF rfl rfl) ?_
      clear hF; intro a hF
      refine seq_yl hF (wn_none rfl) rfl rfl (yl_bin hF rfl rfl rfl rfl (fun _ => run_eql)) ?_
      clear hF; intro a hF
      refine seq_wp (wn_none rfl) (wp_call (vs := [_, _, _]) hF rfl rfl rfl rfl cf15 (get2 _ M295 (r296) (c297) ((((rnd (t) (7 : Int))) - (1 : Int))) (decide (((i : Nat) : Int) = (1 : Int))) _ (hS.rdRow 3 rfl) (by first | omega | (simp; done) | (simp; omega))) ?_)
      clear hF; rintro _ w ⟨v309, L310, k311, b312, rfl, hp313, hS1⟩ a hF
      replace hS := hS.callB hS1 rfl; clear hS1
      obtain ⟨Av309, cv309, rfl⟩ := hS.form 0 rfl
      have hlhp313 := get_len hp313
      have hq := hp307.symm.trans hp313; injection hq with h1 h2; injection h2 with h3 h4; subst h1 h3 h4
      refine seq_yl hF (wn_none rfl) rfl rfl (yl_move hF rfl rfl) ?_
      clear hF; intro a hF
      refine seq_yl hF (wn_none rfl) rfl rfl (yl_extract hF rfl rfl rfl) ?_
      clear hF; intro a hF
      refine seq_yl hF (wn_none rfl) rfl rfl (yl_extract hF rfl rfl rfl) ?_
      clear hF; intro a hF
      refine seq_yl hF (wn_none rfl) rfl rfl (yl_extract hF rfl rfl rfl) ?_
      clear hF; intro a hF
      refine seq_wp (wn_none rfl) (wp_alloc (cs := #[_, _, _]) hF hS rfl rfl rfl zr24 rfl ?_)
      clear hF hS; intro a w g314 hF hS
      refine seq_wp (wn_none rfl) (wp_store (cs' := #[_, _, _]) hF hS rfl rfl rfl rfl 0 rfl sz24 (by simp [Value.cells, Value.oneCell']) (by simp [Value.cells]) rfl ?_)
      clear hF hS; intro a w hF hS
      refine seq_yl hF (wn_none rfl) rfl rfl (yl_assign hF rfl rfl) ?_
      clear hF; intro a hF
      refine seq_yl hF (wn_none rfl) rfl rfl (yl_assign hF rfl rfl) ?_
      clear hF; intro a hF
      refine wpList_nil ?_
      refine then_n ?_
      refine c_seq ?_
      refine c_region ?_
      refine seq_yl hF (wn_none rfl) rfl rfl (yl_loadK (rs := [_, _, _]) (fun _ h => h ▸ hS) hF rfl rfl 2 rfl ag24 sz24 rfl rfl) ?_
      clear hF; intro a hF
      refine seq_yl hF (wn_none rfl) rfl rfl (yl_loadK (rs := [_, _, _]) (fun _ h => h ▸ hS) hF rfl rfl 0 rfl ag24 sz24 rfl rfl) ?_
      clear hF; intro a hF
      refine seq_wp (wn_none rfl) (wp_call (vs := [_, _]) hF rfl rfl rfl rfl cf20 (sameT _ _ L304 L304 (r296) (c297) (r296) (c297) _ (hS.rdRow 3 rfl) (hS.rdRow 1 rfl) (by first | omega | (simp; done) | (simp; omega)) (by first | omega | (simp; done) | (simp; omega))) ?_)
      clear hF; rintro _ w ⟨rfl, hS1⟩ a hF
      replace hS := hS.callB hS1 rfl; clear hS1
      replace hF := fr_set (b' := true) hF (by simp)
      refine seq_yl hF (wn_none rfl) rfl rfl (yl_un hF rfl rfl (fun _ => run_not)) ?_
      clear hF; intro a hF
      refine seq_yl hF (wn_none rfl) rfl rfl (yl_move hF rfl rfl) ?_
      clear hF; intro a hF
      refine seq_yl hF (wn_t hF rfl rfl rfl rfl) rfl rfl (yl_move hF rfl rfl) ?_
      clear hF; intro a hF
      refine seq_yl hF (wn_t hF rfl rfl rfl rfl) rfl rfl (yl_move hF rfl rfl) ?_
      clear hF; intro a hF
      refine seq_yl hF (wn_t hF rfl rfl rfl rfl) rfl rfl (yl_bin hF rfl rfl rfl rfl (fun _ => run_neq)) ?_
      clear hF; intro a hF
      replace hF := fr_set (b' := false) hF (by simp)
      refine seq_yl hF (wn_none rfl) rfl rfl (yl_pick (u := _) (v := undef) hF rfl rfl (fun h => by cases h) (fun _ => rfl)) ?_
      clear hF; intro a hF
      refine seq_yl hF (wn_none rfl) rfl rfl (yl_move hF rfl rfl) ?_
      clear hF; intro a hF
      refine seq_yl hF (wn_t hF rfl rfl rfl rfl) rfl rfl (yl_move hF rfl rfl) ?_
      clear hF; intro a hF
      refine seq_yl hF (wn_t hF rfl rfl rfl rfl) rfl rfl (yl_move hF rfl rfl) ?_
      clear hF; intro a hF
      refine seq_yl hF (wn_t hF rfl rfl rfl rfl) rfl rfl (yl_bin hF rfl rfl rfl rfl (fun _ => run_neb Try.underlying4)) ?_
      clear hF; intro a hF
      replace hF := fr_set (b' := false) hF (by simp)
      refine seq_yl hF (wn_none rfl) rfl rfl (yl_pick (u := _) (v := undef) hF rfl rfl (fun h => by cases h) (fun _ => rfl)) ?_
      clear hF; intro a hF
      refine wpList_nil ?_
      refine then_n ?_
      refine c_cond_f hF rfl ?_
      refine wp_skip ?_
      refine inb_n ?_
      refine then_n ?_
      refine c_region ?_
      refine seq_yl hF (wn_none rfl) rfl rfl (yl_move hF rfl rfl) ?_
      clear hF; intro a hF
      refine seq_yl hF (wn_none rfl) rfl rfl (yl_bin hF rfl rfl rfl rfl (fun _ => run_inc (by omega))) ?_
      clear hF; intro a hF
      refine seq_yl hF (wn_none rfl) rfl rfl (yl_assign hF rfl rfl) ?_
      clear hF; intro a hF
      refine wpList_nil ?_
      refine then_n ?_
      exact ⟨_, (by omega), i + 1, rfl, (by omega), hF.to [3, 9, 10, 11] rfl, (hS.sub [4, 5] (by decide) (by first | rfl | simp) (by simp))⟩
    · first | (replace hc302 := of_decide_eq_false hc302) | (replace hc302 := of_decide_eq_true (bnot_f hc302)) | (subst hc302) | (replace hc302 := bnot_f hc302; subst hc302) | (replace hc302 := bnot_f hc302) | skip
      refine wp_exit ?_
      refine then_x ?_
      refine then_x ?_
      refine inb_x ?_
      refine then_n ?_
      refine c_seq ?_
      refine ha_startS hS [0] 11 (by kernel_rfl) ?_; clear hS; intro w hS
      have hSS := hS.sub [0] (by decide) rfl (by simp)
      refine ha_y 1 hF rfl rfl rfl (wn_none rfl) (.inr hSS) (yl_move hF rfl rfl) ?_
      clear hF; intro a hF
      refine ha_l 0 hF rfl rfl rfl (wn_none rfl) hSS (yl_loadK (rs := [_, _, _]) (fun _ h => h) hF rfl rfl 0 rfl ag24 sz24 rfl rfl) ?_
      clear hF; intro a hF
      refine ha_all (rs := [2, 8]) (by kernel_rfl) (by simp) ?_
      refine List.forall_mem_cons.2 ⟨?_, List.forall_mem_cons.2 ⟨?_, (fun _ h => by cases h)⟩⟩
      · skip
        have hr315 := rnd_bounds (k) (10 : Int) (by omega)
        refine ha_op 2 rfl (wn_none rfl) (wp_call (vs := [_, _]) hF rfl rfl rfl rfl cf8 (round_any (k) (10 : Int) _ (by omega)) ?_)
        clear hF; rintro _ w ⟨rfl, hS1⟩ a hF
        replace hS := hS.callB hS1 rfl; clear hS1
        replace hSS := hS.sub [0] (by decide) rfl (by simp)
        refine ⟨.inr hSS, ?_⟩
        refine ha_y 3 hF rfl rfl rfl (wn_none rfl) (.inr hSS) (yl_bin hF rfl rfl rfl rfl (fun _ => run_sub (by refine ⟨?_, ?_⟩ <;> omega))) ?_
        clear hF; intro a hF
        refine ha_all (rs := [4, 8]) (by kernel_rfl) (by simp) ?_
        refine List.forall_mem_cons.2 ⟨?_, List.forall_mem_cons.2 ⟨?_, (fun _ h => by cases h)⟩⟩
        · skip
          refine ha_op 4 rfl (wn_none rfl) (wp_call (vs := [_, _]) hF rfl rfl rfl rfl cf16 (put1 _ M295 (r296) (c297) ((((rnd (k) (10 : Int))) - (1 : Int))) _ (hS.rdRow 1 rfl) (by first | omega | (simp; done) | (simp; omega))) ?_)
          clear hF; rintro _ w ⟨v316, L317, b318, rfl, hp319, hS1⟩ a hF
          replace hS := hS.callB hS1 rfl; clear hS1
          obtain ⟨Av316, cv316, rfl⟩ := hS.form 0 rfl
          have hlhp319 := put_len hp319
          replace hSS := hS.sub [1] (by decide) rfl (by simp)
          refine ⟨.inr hSS, ?_⟩
          refine ha_y 5 hF rfl rfl rfl (wn_none rfl) (.inr hSS) (yl_move hF rfl rfl) ?_
          clear hF; intro a hF
          refine ha_y 6 hF rfl rfl rfl (wn_none rfl) (.inr hSS) (yl_extract hF rfl rfl rfl) ?_
          clear hF; intro a hF
          refine ha_y 7 hF rfl rfl rfl (wn_none rfl) (.inr hSS) (yl_extract hF rfl rfl rfl) ?_
          clear hF; intro a hF
          refine ha_one 8 (by kernel_rfl) rfl (wn_none rfl) (wp_alloc (cs := #[_, _, _]) hF hS rfl rfl rfl zr24 rfl ?_)
          clear hF hS; intro a w g320 hF hS
          replace hSS := hS.sub [2] (by decide) rfl (by simp)
          refine ⟨.inr hSS, ?_⟩
          refine ha_one 9 (by kernel_rfl) rfl (wn_none rfl) (wp_store (cs' := #[_, _, _]) hF hS rfl rfl rfl rfl 0 rfl sz24 (by simp [Value.cells, Value.oneCell']) (by simp [Value.cells]) rfl ?_)
          clear hF hS; intro a w hF hS
          replace hSS := hS.sub [2] (by decide) rfl (by simp)
          refine ⟨.inr hSS, ?_⟩
          refine ha_y 10 hF rfl rfl rfl (wn_none rfl) (.inr hSS) (yl_assign hF rfl rfl) ?_
          clear hF; intro a hF
          refine ha_done (by kernel_rfl) ?_ _
          refine then_n ?_
          refine c_seq ?_
          refine ha_startS hS [2] 11 (by kernel_rfl) ?_; clear hS; intro w hS
          have hSS := hS.sub [2] (by decide) rfl (by simp)
          refine ha_y 1 hF rfl rfl rfl (wn_none rfl) (.inr hSS) (yl_move hF rfl rfl) ?_
          clear hF; intro a hF
          refine ha_l 0 hF rfl rfl rfl (wn_none rfl) hSS (yl_loadK (rs := [_, _, _]) (fun _ h => h) hF rfl rfl 0 rfl ag24 sz24 rfl rfl) ?_
          clear hF; intro a hF
          refine ha_all (rs := [2, 8]) (by kernel_rfl) (by simp) ?_
          refine List.forall_mem_cons.2 ⟨?_, List.forall_mem_cons.2 ⟨?_, (fun _ h => by cases h)⟩⟩
          · skip
            have hr321 := rnd_bounds (k) (10 : Int) (by omega)
            refine ha_op 2 rfl (wn_none rfl) (wp_call (vs := [_, _]) hF rfl rfl rfl rfl cf8 (round_any (k) (10 : Int) _ (by omega)) ?_)
            clear hF; rintro _ w ⟨rfl, hS1⟩ a hF
            replace hS := hS.callB hS1 rfl; clear hS1
            replace hSS := hS.sub [2] (by decide) rfl (by simp)
            refine ⟨.inr hSS, ?_⟩
            refine ha_y 3 hF rfl rfl rfl (wn_none rfl) (.inr hSS) (yl_bin hF rfl rfl rfl rfl (fun _ => run_sub (by refine ⟨?_, ?_⟩ <;> omega))) ?_
            clear hF; intro a hF
            refine ha_all (rs := [4, 8]) (by kernel_rfl) (by simp) ?_
            refine List.forall_mem_cons.2 ⟨?_, List.forall_mem_cons.2 ⟨?_, (fun _ h => by cases h)⟩⟩
            · skip
              refine ha_op 4 rfl (wn_none rfl) (wp_call (vs := [_, _]) hF rfl rfl rfl rfl cf17 (put2 _ M295 (r296) (c297) ((((rnd (k) (10 : Int))) - (1 : Int))) _ (hS.rdRow 3 rfl) (by first | omega | (simp; done) | (simp; omega))) ?_)
              clear hF; rintro _ w ⟨v322, L323, b324, rfl, hp325, hS1⟩ a hF
              replace hS := hS.callB hS1 rfl; clear hS1
              obtain ⟨Av322, cv322, rfl⟩ := hS.form 0 rfl
              have hlhp325 := put_len hp325
              have hq := hp319.symm.trans hp325; injection hq with h1 h2; subst h1 h2
              replace hSS := hS.sub [3] (by decide) rfl (by simp)
              refine ⟨.inr hSS, ?_⟩
              refine ha_y 5 hF rfl rfl rfl (wn_none rfl) (.inr hSS) (yl_move hF rfl rfl) ?_
              clear hF; intro a hF
              refine ha_y 6 hF rfl rfl rfl (wn_none rfl) (.inr hSS) (yl_extract hF rfl rfl rfl) ?_
              clear hF; intro a hF
              refine ha_y 7 hF rfl rfl rfl (wn_none rfl) (.inr hSS) (yl_extract hF rfl rfl rfl) ?_
              clear hF; intro a hF
              refine ha_one 8 (by kernel_rfl) rfl (wn_none rfl) (wp_alloc (cs := #[_, _, _]) hF hS rfl rfl rfl zr24 rfl ?_)
              clear hF hS; intro a w g326 hF hS
              replace hSS := hS.sub [4] (by decide) rfl (by simp)
              refine ⟨.inr hSS, ?_⟩
              refine ha_one 9 (by kernel_rfl) rfl (wn_none rfl) (wp_store (cs' := #[_, _, _]) hF hS rfl rfl rfl rfl 0 rfl sz24 (by simp [Value.cells, Value.oneCell']) (by simp [Value.cells]) rfl ?_)
              clear hF hS; intro a w hF hS
              replace hSS := hS.sub [4] (by decide) rfl (by simp)
              refine ⟨.inr hSS, ?_⟩
              refine ha_y 10 hF rfl rfl rfl (wn_none rfl) (.inr hSS) (yl_assign hF rfl rfl) ?_
              clear hF; intro a hF
              refine ha_done (by kernel_rfl) ?_ _
              refine then_n ?_
              refine c_seq ?_
              refine ha_startS hS [4, 2, 0] 32 (by kernel_rfl) ?_; clear hS; intro w hS
              have hSS := hS.sub [4, 2, 0] (by decide) rfl (by simp)
              refine ha_l 0 hF rfl rfl rfl (wn_none rfl) hSS (yl_loadK (rs := [_, _, _]) (fun _ h => h) hF rfl rfl 0 rfl ag24 sz24 rfl rfl) ?_
              clear hF; intro a hF
              refine ha_one 1 (by kernel_rfl) rfl (wn_none rfl) (wp_call (vs := [_]) hF rfl rfl rfl rfl cf18 (valid1 _ M295 (r296) (c297) _ (hS.rdRow 5 rfl) (by first | omega | (simp; done) | (simp; omega))) ?_)
              clear hF; rintro _ w ⟨rfl, hS1⟩ a hF
              replace hS := hS.callB hS1 rfl; clear hS1
              replace hSS := hS.sub [4, 2, 0] (by decide) rfl (by simp)
              refine ⟨.inr hSS, ?_⟩
              replace hF := fr_set (b' := true) hF (by rw [decide_eq_true_eq]; exact hv298)
              refine ha_y 2 hF rfl rfl rfl (wn_none rfl) (.inr hSS) (yl_move hF rfl rfl) ?_
              clear hF; intro a hF
              refine ha_l 3 hF rfl rfl rfl (wn_t hF rfl rfl rfl rfl) hSS (yl_loadK (rs := [_, _, _]) (fun _ h => h) hF rfl rfl 1 rfl ag24 sz24 rfl rfl) ?_
              clear hF; intro a hF
              refine ha_l 4 hF rfl rfl rfl (wn_t hF rfl rfl rfl rfl) hSS (yl_loadK (rs := [_, _, _]) (fun _ h => h) hF rfl rfl 2 rfl ag24 sz24 rfl rfl) ?_
              clear hF; intro a hF
              refine ha_one 5 (by kernel_rfl) rfl (wn_t hF rfl rfl rfl rfl) (wp_call (vs := [_, _]) hF rfl rfl rfl rfl cf20 (sameT _ _ L317 L317 (r296) (c297) (r296) (c297) _ (hS.rdRow 3 rfl) (hS.rdRow 1 rfl) (by first | omega | (simp; done) | (simp; omega)) (by first | omega | (simp; done) | (simp; omega))) ?_)
              clear hF; rintro _ w ⟨rfl, hS1⟩ a hF
              replace hS := hS.callB hS1 rfl; clear hS1
              replace hSS := hS.sub [4, 2, 0] (by decide) rfl (by simp)
              refine ⟨.inr hSS, ?_⟩
              replace hF := fr_set (b' := true) hF (by simp)
              refine ha_y 6 hF rfl rfl rfl (wn_none rfl) (.inr hSS) (yl_pick (u := _) (v := undef) hF rfl rfl (fun _ => rfl) (fun h => by cases h)) ?_
              clear hF; intro a hF
              refine ha_y 7 hF rfl rfl rfl (wn_none rfl) (.inr hSS) (yl_move hF rfl rfl) ?_
              clear hF; intro a hF
              refine ha_y 8 hF rfl rfl rfl (wn_t hF rfl rfl rfl rfl) (.inr hSS) (yl_move hF rfl rfl) ?_
              clear hF; intro a hF
              refine ha_y 9 hF rfl rfl rfl (wn_t hF rfl rfl rfl rfl) (.inr hSS) (yl_move hF rfl rfl) ?_
              clear hF; intro a hF
              refine ha_y 10 hF rfl rfl rfl (wn_t hF rfl rfl rfl rfl) (.inr hSS) (yl_bin hF rfl rfl rfl rfl (fun _ => run_eqb Try.underlying4)) ?_
              clear hF; intro a hF
              replace hF := fr_set (b' := true) hF (by simp)
              refine ha_y 11 hF rfl rfl rfl (wn_none rfl) (.inr hSS) (yl_pick (u := _) (v := undef) hF rfl rfl (fun _ => rfl) (fun h => by cases h)) ?_
              clear hF; intro a hF
              refine ha_y 12 hF rfl rfl rfl (wn_none rfl) (.inr hSS) (yl_move hF rfl rfl) ?_
              clear hF; intro a hF
              refine ha_y 14 hF rfl rfl rfl (wn_t hF rfl rfl rfl rfl) (.inr hSS) (yl_move hF rfl rfl) ?_
              clear hF; intro a hF
              refine ha_y 17 hF rfl rfl rfl (wn_t hF rfl rfl rfl rfl) (.inr hSS) (yl_move hF rfl rfl) ?_
              clear hF; intro a hF
              refine ha_l 13 hF rfl rfl rfl (wn_t hF rfl rfl rfl rfl) hSS (yl_loadK (rs := [_, _, _]) (fun _ h => h) hF rfl rfl 0 rfl ag24 sz24 rfl rfl) ?_
              clear hF; intro a hF
              refine ha_l 16 hF rfl rfl rfl (wn_t hF rfl rfl rfl rfl) hSS (yl_loadK (rs := [_, _, _]) (fun _ h => h) hF rfl rfl 0 rfl ag24 sz24 rfl rfl) ?_
              clear hF; intro a hF
              have hc327 := held_in M295 (r296) (c297) ((((rnd (t) (7 : Int))) - (1 : Int)))
              refine ha_one 15 (by kernel_rfl) rfl (wn_t hF rfl rfl rfl rfl) (wp_call (vs := [_, _]) hF rfl rfl rfl rfl cf11 (held1 _ M295 (r296) (c297) ((((rnd (t) (7 : Int))) - (1 : Int))) _ (hS.rdRow 5 rfl) (by first | omega | (simp; done) | (simp; omega))) ?_)
              clear hF; rintro _ w ⟨rfl, hS1⟩ a hF
              replace hS := hS.callB hS1 rfl; clear hS1
              replace hSS := hS.sub [4, 2, 0] (by decide) rfl (by simp)
              refine ⟨.inr hSS, ?_⟩
              have hc328 := held_in M295 (r296) (c297) ((((rnd (t) (7 : Int))) - (1 : Int)))
              refine ha_one 18 (by kernel_rfl) rfl (wn_t hF rfl rfl rfl rfl) (wp_call (vs := [_, _]) hF rfl rfl rfl rfl cf21 (held2 _ M295 (r296) (c297) ((((rnd (t) (7 : Int))) - (1 : Int))) _ (hS.rdRow 5 rfl) (by first | omega | (simp; done) | (simp; omega))) ?_)
              clear hF; rintro _ w ⟨rfl, hS1⟩ a hF
              replace hS := hS.callB hS1 rfl; clear hS1
              replace hSS := hS.sub [4, 2, 0] (by decide) rfl (by simp)
              refine ⟨.inr hSS, ?_⟩
              refine ha_y 19 hF rfl rfl rfl (wn_t hF rfl rfl rfl rfl) (.inr hSS) (yl_bin hF rfl rfl rfl rfl (fun _ => run_eql)) ?_
              clear hF; intro a hF
              replace hF := fr_set (b' := true) hF (by simp)
              refine ha_y 20 hF rfl rfl rfl (wn_none rfl) (.inr hSS) (yl_pick (u := _) (v := undef) hF rfl rfl (fun _ => rfl) (fun h => by cases h)) ?_
              clear hF; intro a hF
              refine ha_y 21 hF rfl rfl rfl (wn_none rfl) (.inr hSS) (yl_move hF rfl rfl) ?_
              clear hF; intro a hF
              refine ha_l 22 hF rfl rfl rfl (wn_t hF rfl rfl rfl rfl) hSS (yl_loadK (rs := [_, _, _]) (fun _ h => h) hF rfl rfl 0 rfl ag24 sz24 rfl rfl) ?_
              clear hF; intro a hF
              refine ha_l 24 hF rfl rfl rfl (wn_t hF rfl rfl rfl rfl) hSS (yl_loadK (rs := [_, _, _]) (fun _ h => h) hF rfl rfl 0 rfl ag24 sz24 rfl rfl) ?_
              clear hF; intro a hF
              have hc329 := count_in M295 (r296) (c297) (-1)
              refine ha_one 23 (by kernel_rfl) rfl (wn_t hF rfl rfl rfl rfl) (wp_call (vs := [_]) hF rfl rfl rfl rfl cf10 (free1 _ M295 (r296) (c297) _ (hS.rdRow 5 rfl) (by first | omega | (simp; done) | (simp; omega))) ?_)
              clear hF; rintro _ w ⟨rfl, hS1⟩ a hF
              replace hS := hS.callB hS1 rfl; clear hS1
              replace hSS := hS.sub [4, 2, 0] (by decide) rfl (by simp)
              refine ⟨.inr hSS, ?_⟩
              have hc330 := count_in M295 (r296) (c297) (-1)
              refine ha_one 25 (by kernel_rfl) rfl (wn_t hF rfl rfl rfl rfl) (wp_call (vs := [_]) hF rfl rfl rfl rfl cf22 (free2 _ M295 (r296) (c297) _ (hS.rdRow 5 rfl) (by first | omega | (simp; done) | (simp; omega))) ?_)
              clear hF; rintro _ w ⟨rfl, hS1⟩ a hF
              replace hS := hS.callB hS1 rfl; clear hS1
              replace hSS := hS.sub [4, 2, 0] (by decide) rfl (by simp)
              refine ⟨.inr hSS, ?_⟩
              refine ha_y 26 hF rfl rfl rfl (wn_t hF rfl rfl rfl rfl) (.inr hSS) (yl_bin hF rfl rfl rfl rfl (fun _ => run_eql)) ?_
              clear hF; intro a hF
              replace hF := fr_set (b' := true) hF (by simp)
              refine ha_y 27 hF rfl rfl rfl (wn_none rfl) (.inr hSS) (yl_pick (u := _) (v := undef) hF rfl rfl (fun _ => rfl) (fun h => by cases h)) ?_
              clear hF; intro a hF
              refine ha_y 28 hF rfl rfl rfl (wn_none rfl) (.inr hSS) (yl_move hF rfl rfl) ?_
              clear hF; intro a hF
              refine ha_one 29 (by kernel_rfl) rfl (wn_t hF rfl rfl rfl rfl) (wp_call (vs := []) hF rfl rfl rfl rfl cf12 (awake_any _) ?_)
              clear hF; rintro _ w ⟨rfl, hS1⟩ a hF
              replace hS := hS.callB hS1 rfl; clear hS1
              replace hSS := hS.sub [4, 2, 0] (by decide) rfl (by simp)
              refine ⟨.inr hSS, ?_⟩
              refine ha_y 30 hF rfl rfl rfl (wn_none rfl) (.inr hSS) (yl_pick (u := _) (v := undef) hF rfl rfl (fun _ => rfl) (fun h => by cases h)) ?_
              clear hF; intro a hF
              refine ha_y 31 hF rfl rfl rfl (wn_none rfl) (.inr hSS) (yl_assign hF rfl rfl) ?_
              clear hF; intro a hF
              refine ha_done (by kernel_rfl) ?_ _
              refine then_n ?_
              refine wp_ret ?_
              refine ret_t hF rfl rfl ?_
              exact ⟨_, rfl, rfl, (hS.sub [] (by decide) (by first | rfl | simp) (by simp))⟩
            · skip
              refine ha_op 8 rfl (wn_none rfl) (wp_alloc (cs := #[_, _, _]) hF hS rfl rfl rfl zr24 rfl ?_)
              clear hF hS; intro a w g331 hF hS
              replace hSS := hS.sub [3] (by decide) rfl (by simp)
              refine ⟨.inr hSS, ?_⟩
              refine ha_one 4 (by kernel_rfl) rfl (wn_none rfl) (wp_call (vs := [_, _]) hF rfl rfl rfl rfl cf17 (put2 _ M295 (r296) (c297) ((((rnd (k) (10 : Int))) - (1 : Int))) _ (hS.rdRow 4 rfl) (by first | omega | (simp; done) | (simp; omega))) ?_)
              clear hF; rintro _ w ⟨v332, L333, b334, rfl, hp335, hS1⟩ a hF
              replace hS := hS.callB hS1 rfl; clear hS1
              obtain ⟨Av332, cv332, rfl⟩ := hS.form 0 rfl
              have hlhp335 := put_len hp335
              have hq := hp319.symm.trans hp335; injection hq with h1 h2; subst h1 h2
              replace hSS := hS.sub [4] (by decide) rfl (by simp)
              refine ⟨.inr hSS, ?_⟩
              refine ha_y 5 hF rfl rfl rfl (wn_none rfl) (.inr hSS) (yl_move hF rfl rfl) ?_
              clear hF; intro a hF
              refine ha_y 6 hF rfl rfl rfl (wn_none rfl) (.inr hSS) (yl_extract hF rfl rfl rfl) ?_
              clear hF; intro a hF
              refine ha_y 7 hF rfl rfl rfl (wn_none rfl) (.inr hSS) (yl_extract hF rfl rfl rfl) ?_
              clear hF; intro a hF
              refine ha_one 9 (by kernel_rfl) rfl (wn_none rfl) (wp_store (cs' := #[_, _, _]) hF hS rfl rfl rfl rfl 1 rfl sz24 (by simp [Value.cells, Value.oneCell']) (by simp [Value.cells]) rfl ?_)
              clear hF hS; intro a w hF hS
              replace hSS := hS.sub [4] (by decide) rfl (by simp)
              refine ⟨.inr hSS, ?_⟩
              refine ha_y 10 hF rfl rfl rfl (wn_none rfl) (.inr hSS) (yl_assign hF rfl rfl) ?_
              clear hF; intro a hF
              refine ha_done (by kernel_rfl) ?_ _
              refine then_n ?_
              refine c_seq ?_
              refine ha_startS hS [4, 2, 1] 32 (by kernel_rfl) ?_; clear hS; intro w hS
              have hSS := hS.sub [4, 2, 1] (by decide) rfl (by simp)
              refine ha_l 0 hF rfl rfl rfl (wn_none rfl) hSS (yl_loadK (rs := [_, _, _]) (fun _ h => h) hF rfl rfl 0 rfl ag24 sz24 rfl rfl) ?_
              clear hF; intro a hF
              refine ha_one 1 (by kernel_rfl) rfl (wn_none rfl) (wp_call (vs := [_]) hF rfl rfl rfl rfl cf18 (valid1 _ M295 (r296) (c297) _ (hS.rdRow 5 rfl) (by first | omega | (simp; done) | (simp; omega))) ?_)
              clear hF; rintro _ w ⟨rfl, hS1⟩ a hF
              replace hS := hS.callB hS1 rfl; clear hS1
              replace hSS := hS.sub [4, 2, 1] (by decide) rfl (by simp)
              refine ⟨.inr hSS, ?_⟩
              replace hF := fr_set (b' := true) hF (by rw [decide_eq_true_eq]; exact hv298)
              refine ha_y 2 hF rfl rfl rfl (wn_none rfl) (.inr hSS) (yl_move hF rfl rfl) ?_
              clear hF; intro a hF
              refine ha_l 3 hF rfl rfl rfl (wn_t hF rfl rfl rfl rfl) hSS (yl_loadK (rs := [_, _, _]) (fun _ h => h) hF rfl rfl 1 rfl ag24 sz24 rfl rfl) ?_
              clear hF; intro a hF
              refine ha_l 4 hF rfl rfl rfl (wn_t hF rfl rfl rfl rfl) hSS (yl_loadK (rs := [_, _, _]) (fun _ h => h) hF rfl rfl 2 rfl ag24 sz24 rfl rfl) ?_
              clear hF; intro a hF
              refine ha_one 5 (by kernel_rfl) rfl (wn_t hF rfl rfl rfl rfl) (wp_call (vs := [_, _]) hF rfl rfl rfl rfl cf20 (sameT _ _ L317 L317 (r296) (c297) (r296) (c297) _ (hS.rdRow 3 rfl) (hS.rdRow 0 rfl) (by first | omega | (simp; done) | (simp; omega)) (by first | omega | (simp; done) | (simp; omega))) ?_)
              clear hF; rintro _ w ⟨rfl, hS1⟩ a hF
              replace hS := hS.callB hS1 rfl; clear hS1
              replace hSS := hS.sub [4, 2, 1] (by decide) rfl (by simp)
              refine ⟨.inr hSS, ?_⟩
              replace hF := fr_set (b' := true) hF (by simp)
              refine ha_y 6 hF rfl rfl rfl (wn_none rfl) (.inr hSS) (yl_pick (u := _) (v := undef) hF rfl rfl (fun _ => rfl) (fun h => by cases h)) ?_
              clear hF; intro a hF
              refine ha_y 7 hF rfl rfl rfl (wn_none rfl) (.inr hSS) (yl_move hF rfl rfl) ?_
              clear hF; intro a hF
              refine ha_y 8 hF rfl rfl rfl (wn_t hF rfl rfl rfl rfl) (.inr hSS) (yl_move hF rfl rfl) ?_
              clear hF; intro a hF
              refine ha_y 9 hF rfl rfl rfl (wn_t hF rfl rfl rfl rfl) (.inr hSS) (yl_move hF rfl rfl) ?_
              clear hF; intro a hF
              refine ha_y 10 hF rfl rfl rfl (wn_t hF rfl rfl rfl rfl) (.inr hSS) (yl_bin hF rfl rfl rfl rfl (fun _ => run_eqb Try.underlying4)) ?_
              clear hF; intro a hF
              replace hF := fr_set (b' := true) hF (by simp)
              refine ha_y 11 hF rfl rfl rfl (wn_none rfl) (.inr hSS) (yl_pick (u := _) (v := undef) hF rfl rfl (fun _ => rfl) (fun h => by cases h)) ?_
              clear hF; intro a hF
              refine ha_y 12 hF rfl rfl rfl (wn_none rfl) (.inr hSS) (yl_move hF rfl rfl) ?_
              clear hF; intro a hF
              refine ha_y 14 hF rfl rfl rfl (wn_t hF rfl rfl rfl rfl) (.inr hSS) (yl_move hF rfl rfl) ?_
              clear hF; intro a hF
              refine ha_y 17 hF rfl rfl rfl (wn_t hF rfl rfl rfl rfl) (.inr hSS) (yl_move hF rfl rfl) ?_
              clear hF; intro a hF
              refine ha_l 13 hF rfl rfl rfl (wn_t hF rfl rfl rfl rfl) hSS (yl_loadK (rs := [_, _, _]) (fun _ h => h) hF rfl rfl 0 rfl ag24 sz24 rfl rfl) ?_
              clear hF; intro a hF
              refine ha_l 16 hF rfl rfl rfl (wn_t hF rfl rfl rfl rfl) hSS (yl_loadK (rs := [_, _, _]) (fun _ h => h) hF rfl rfl 0 rfl ag24 sz24 rfl rfl) ?_
              clear hF; intro a hF
              have hc336 := held_in M295 (r296) (c297) ((((rnd (t) (7 : Int))) - (1 : Int)))
              refine ha_one 15 (by kernel_rfl) rfl (wn_t hF rfl rfl rfl rfl) (wp_call (vs := [_, _]) hF rfl rfl rfl rfl cf11 (held1 _ M295 (r296) (c297) ((((rnd (t) (7 : Int))) - (1 : Int))) _ (hS.rdRow 5 rfl) (by first | omega | (simp; done) | (simp; omega))) ?_)
              clear hF; rintro _ w ⟨rfl, hS1⟩ a hF
              replace hS := hS.callB hS1 rfl; clear hS1
              replace hSS := hS.sub [4, 2, 1] (by decide) rfl (by simp)
              refine ⟨.inr hSS, ?_⟩
              have hc337 := held_in M295 (r296) (c297) ((((rnd (t) (7 : Int))) - (1 : Int)))
              refine ha_one 18 (by kernel_rfl) rfl (wn_t hF rfl rfl rfl rfl) (wp_call (vs := [_, _]) hF rfl rfl rfl rfl cf21 (held2 _ M295 (r296) (c297) ((((rnd (t) (7 : Int))) - (1 : Int))) _ (hS.rdRow 5 rfl) (by first | omega | (simp; done) | (simp; omega))) ?_)
              clear hF; rintro _ w ⟨rfl, hS1⟩ a hF
              replace hS := hS.callB hS1 rfl; clear hS1
              replace hSS := hS.sub [4, 2, 1] (by decide) rfl (by simp)
              refine ⟨.inr hSS, ?_⟩
              refine ha_y 19 hF rfl rfl rfl (wn_t hF rfl rfl rfl rfl) (.inr hSS) (yl_bin hF rfl rfl rfl rfl (fun _ => run_eql)) ?_
              clear hF; intro a hF
              replace hF := fr_set (b' := true) hF (by simp)
              refine ha_y 20 hF rfl rfl rfl (wn_none rfl) (.inr hSS) (yl_pick (u := _) (v := undef) hF rfl rfl (fun _ => rfl) (fun h => by cases h)) ?_
              clear hF; intro a hF
              refine ha_y 21 hF rfl rfl rfl (wn_none rfl) (.inr hSS) (yl_move hF rfl rfl) ?_
              clear hF; intro a hF
              refine ha_l 22 hF rfl rfl rfl (wn_t hF rfl rfl rfl rfl) hSS (yl_loadK (rs := [_, _, _]) (fun _ h => h) hF rfl rfl 0 rfl ag24 sz24 rfl rfl) ?_
              clear hF; intro a hF
              refine ha_l 24 hF rfl rfl rfl (wn_t hF rfl rfl rfl rfl) hSS (yl_loadK (rs := [_, _, _]) (fun _ h => h) hF rfl rfl 0 rfl ag24 sz24 rfl rfl) ?_
              clear hF; intro a hF
              have hc338 := count_in M295 (r296) (c297) (-1)
              refine ha_one 23 (by kernel_rfl) rfl (wn_t hF rfl rfl rfl rfl) (wp_call (vs := [_]) hF rfl rfl rfl rfl cf10 (free1 _ M295 (r296) (c297) _ (hS.rdRow 5 rfl) (by first | omega | (simp; done) | (simp; omega))) ?_)
              clear hF; rintro _ w ⟨rfl, hS1⟩ a hF
              replace hS := hS.callB hS1 rfl; clear hS1
              replace hSS := hS.sub [4, 2, 1] (by decide) rfl (by simp)
              refine ⟨.inr hSS, ?_⟩
              have hc339 := count_in M295 (r296) (c297) (-1)
              refine ha_one 25 (by kernel_rfl) rfl (wn_t hF rfl rfl rfl rfl) (wp_call (vs := [_]) hF rfl rfl rfl rfl cf22 (free2 _ M295 (r296) (c297) _ (hS.rdRow 5 rfl) (by first | omega | (simp; done) | (simp; omega))) ?_)
              clear hF; rintro _ w ⟨rfl, hS1⟩ a hF
              replace hS := hS.callB hS1 rfl; clear hS1
              replace hSS := hS.sub [4, 2, 1] (by decide) rfl (by simp)
              refine ⟨.inr hSS, ?_⟩
              refine ha_y 26 hF rfl rfl rfl (wn_t hF rfl rfl rfl rfl) (.inr hSS) (yl_bin hF rfl rfl rfl rfl (fun _ => run_eql)) ?_
              clear hF; intro a hF
              replace hF := fr_set (b' := true) hF (by simp)
              refine ha_y 27 hF rfl rfl rfl (wn_none rfl) (.inr hSS) (yl_pick (u := _) (v := undef) hF rfl rfl (fun _ => rfl) (fun h => by cases h)) ?_
              clear hF; intro a hF
              refine ha_y 28 hF rfl rfl rfl (wn_none rfl) (.inr hSS) (yl_move hF rfl rfl) ?_
              clear hF; intro a hF
              refine ha_one 29 (by kernel_rfl) rfl (wn_t hF rfl rfl rfl rfl) (wp_call (vs := []) hF rfl rfl rfl rfl cf12 (awake_any _) ?_)
              clear hF; rintro _ w ⟨rfl, hS1⟩ a hF
              replace hS := hS.callB hS1 rfl; clear hS1
              replace hSS := hS.sub [4, 2, 1] (by decide) rfl (by simp)
              refine ⟨.inr hSS, ?_⟩
              refine ha_y 30 hF rfl rfl rfl (wn_none rfl) (.inr hSS) (yl_pick (u := _) (v := undef) hF rfl rfl (fun _ => rfl) (fun h => by cases h)) ?_
              clear hF; intro a hF
              refine ha_y 31 hF rfl rfl rfl (wn_none rfl) (.inr hSS) (yl_assign hF rfl rfl) ?_
              clear hF; intro a hF
              refine ha_done (by kernel_rfl) ?_ _
              refine then_n ?_
              refine wp_ret ?_
              refine ret_t hF rfl rfl ?_
              exact ⟨_, rfl, rfl, (hS.sub [] (by decide) (by first | rfl | simp) (by simp))⟩
          · skip
            refine ha_op 8 rfl (wn_none rfl) (wp_alloc (cs := #[_, _, _]) hF hS rfl rfl rfl zr24 rfl ?_)
            clear hF hS; intro a w g340 hF hS
            replace hSS := hS.sub [3] (by decide) rfl (by simp)
            refine ⟨.inr hSS, ?_⟩
            have hr341 := rnd_bounds (k) (10 : Int) (by omega)
            refine ha_one 2 (by kernel_rfl) rfl (wn_none rfl) (wp_call (vs := [_, _]) hF rfl rfl rfl rfl cf8 (round_any (k) (10 : Int) _ (by omega)) ?_)
            clear hF; rintro _ w ⟨rfl, hS1⟩ a hF
            replace hS := hS.callB hS1 rfl; clear hS1
            replace hSS := hS.sub [3] (by decide) rfl (by simp)
            refine ⟨.inr hSS, ?_⟩
            refine ha_y 3 hF rfl rfl rfl (wn_none rfl) (.inr hSS) (yl_bin hF rfl rfl rfl rfl (fun _ => run_sub (by refine ⟨?_, ?_⟩ <;> omega))) ?_
            clear hF; intro a hF
            refine ha_one 4 (by kernel_rfl) rfl (wn_none rfl) (wp_call (vs := [_, _]) hF rfl rfl rfl rfl cf17 (put2 _ M295 (r296) (c297) ((((rnd (k) (10 : Int))) - (1 : Int))) _ (hS.rdRow 4 rfl) (by first | omega | (simp; done) | (simp; omega))) ?_)
            clear hF; rintro _ w ⟨v342, L343, b344, rfl, hp345, hS1⟩ a hF
            replace hS := hS.callB hS1 rfl; clear hS1
            obtain ⟨Av342, cv342, rfl⟩ := hS.form 0 rfl
            have hlhp345 := put_len hp345
            have hq := hp319.symm.trans hp345; injection hq with h1 h2; subst h1 h2
            replace hSS := hS.sub [4] (by decide) rfl (by simp)
            refine ⟨.inr hSS, ?_⟩
            refine ha_y 5 hF rfl rfl rfl (wn_none rfl) (.inr hSS) (yl_move hF rfl rfl) ?_
            clear hF; intro a hF
            refine ha_y 6 hF rfl rfl rfl (wn_none rfl) (.inr hSS) (yl_extract hF rfl rfl rfl) ?_
            clear hF; intro a hF
            refine ha_y 7 hF rfl rfl rfl (wn_none rfl) (.inr hSS) (yl_extract hF rfl rfl rfl) ?_
            clear hF; intro a hF
            refine ha_one 9 (by kernel_rfl) rfl (wn_none rfl) (wp_store (cs' := #[_, _, _]) hF hS rfl rfl rfl rfl 1 rfl sz24 (by simp [Value.cells, Value.oneCell']) (by simp [Value.cells]) rfl ?_)
            clear hF hS; intro a w hF hS
            replace hSS := hS.sub [4] (by decide) rfl (by simp)
            refine ⟨.inr hSS, ?_⟩
            refine ha_y 10 hF rfl rfl rfl (wn_none rfl) (.inr hSS) (yl_assign hF rfl rfl) ?_
            clear hF; intro a hF
            refine ha_done (by kernel_rfl) ?_ _
            refine then_n ?_
            refine c_seq ?_
            refine ha_startS hS [4, 2, 1] 32 (by kernel_rfl) ?_; clear hS; intro w hS
            have hSS := hS.sub [4, 2, 1] (by decide) rfl (by simp)
            refine ha_l 0 hF rfl rfl rfl (wn_none rfl) hSS (yl_loadK (rs := [_, _, _]) (fun _ h => h) hF rfl rfl 0 rfl ag24 sz24 rfl rfl) ?_
            clear hF; intro a hF
            refine ha_one 1 (by kernel_rfl) rfl (wn_none rfl) (wp_call (vs := [_]) hF rfl rfl rfl rfl cf18 (valid1 _ M295 (r296) (c297) _ (hS.rdRow 5 rfl) (by first | omega | (simp; done) | (simp; omega))) ?_)
            clear hF; rintro _ w ⟨rfl, hS1⟩ a hF
            replace hS := hS.callB hS1 rfl; clear hS1
            replace hSS := hS.sub [4, 2, 1] (by decide) rfl (by simp)
            refine ⟨.inr hSS, ?_⟩
            replace hF := fr_set (b' := true) hF (by rw [decide_eq_true_eq]; exact hv298)
            refine ha_y 2 hF rfl rfl rfl (wn_none rfl) (.inr hSS) (yl_move hF rfl rfl) ?_
            clear hF; intro a hF
            refine ha_l 3 hF rfl rfl rfl (wn_t hF rfl rfl rfl rfl) hSS (yl_loadK (rs := [_, _, _]) (fun _ h => h) hF rfl rfl 1 rfl ag24 sz24 rfl rfl) ?_
            clear hF; intro a hF
            refine ha_l 4 hF rfl rfl rfl (wn_t hF rfl rfl rfl rfl) hSS (yl_loadK (rs := [_, _, _]) (fun _ h => h) hF rfl rfl 2 rfl ag24 sz24 rfl rfl) ?_
            clear hF; intro a hF
            refine ha_one 5 (by kernel_rfl) rfl (wn_t hF rfl rfl rfl rfl) (wp_call (vs := [_, _]) hF rfl rfl rfl rfl cf20 (sameT _ _ L317 L317 (r296) (c297) (r296) (c297) _ (hS.rdRow 3 rfl) (hS.rdRow 0 rfl) (by first | omega | (simp; done) | (simp; omega)) (by first | omega | (simp; done) | (simp; omega))) ?_)
            clear hF; rintro _ w ⟨rfl, hS1⟩ a hF
            replace hS := hS.callB hS1 rfl; clear hS1
            replace hSS := hS.sub [4, 2, 1] (by decide) rfl (by simp)
            refine ⟨.inr hSS, ?_⟩
            replace hF := fr_set (b' := true) hF (by simp)
            refine ha_y 6 hF rfl rfl rfl (wn_none rfl) (.inr hSS) (yl_pick (u := _) (v := undef) hF rfl rfl (fun _ => rfl) (fun h => by cases h)) ?_
            clear hF; intro a hF
            refine ha_y 7 hF rfl rfl rfl (wn_none rfl) (.inr hSS) (yl_move hF rfl rfl) ?_
            clear hF; intro a hF
            refine ha_y 8 hF rfl rfl rfl (wn_t hF rfl rfl rfl rfl) (.inr hSS) (yl_move hF rfl rfl) ?_
            clear hF; intro a hF
            refine ha_y 9 hF rfl rfl rfl (wn_t hF rfl rfl rfl rfl) (.inr hSS) (yl_move hF rfl rfl) ?_
            clear hF; intro a hF
            refine ha_y 10 hF rfl rfl rfl (wn_t hF rfl rfl rfl rfl) (.inr hSS) (yl_bin hF rfl rfl rfl rfl (fun _ => run_eqb Try.underlying4)) ?_
            clear hF; intro a hF
            replace hF := fr_set (b' := true) hF (by simp)
            refine ha_y 11 hF rfl rfl rfl (wn_none rfl) (.inr hSS) (yl_pick (u := _) (v := undef) hF rfl rfl (fun _ => rfl) (fun h => by cases h)) ?_
            clear hF; intro a hF
            refine ha_y 12 hF rfl rfl rfl (wn_none rfl) (.inr hSS) (yl_move hF rfl rfl) ?_
            clear hF; intro a hF
            refine ha_y 14 hF rfl rfl rfl (wn_t hF rfl rfl rfl rfl) (.inr hSS) (yl_move hF rfl rfl) ?_
            clear hF; intro a hF
            refine ha_y 17 hF rfl rfl rfl (wn_t hF rfl rfl rfl rfl) (.inr hSS) (yl_move hF rfl rfl) ?_
            clear hF; intro a hF
            refine ha_l 13 hF rfl rfl rfl (wn_t hF rfl rfl rfl rfl) hSS (yl_loadK (rs := [_, _, _]) (fun _ h => h) hF rfl rfl 0 rfl ag24 sz24 rfl rfl) ?_
            clear hF; intro a hF
            refine ha_l 16 hF rfl rfl rfl (wn_t hF rfl rfl rfl rfl) hSS (yl_loadK (rs := [_, _, _]) (fun _ h => h) hF rfl rfl 0 rfl ag24 sz24 rfl rfl) ?_
            clear hF; intro a hF
            have hc346 := held_in M295 (r296) (c297) ((((rnd (t) (7 : Int))) - (1 : Int)))
            refine ha_one 15 (by kernel_rfl) rfl (wn_t hF rfl rfl rfl rfl) (wp_call (vs := [_, _]) hF rfl rfl rfl rfl cf11 (held1 _ M295 (r296) (c297) ((((rnd (t) (7 : Int))) - (1 : Int))) _ (hS.rdRow 5 rfl) (by first | omega | (simp; done) | (simp; omega))) ?_)
            clear hF; rintro _ w ⟨rfl, hS1⟩ a hF
            replace hS := hS.callB hS1 rfl; clear hS1
            replace hSS := hS.sub [4, 2, 1] (by decide) rfl (by simp)
            refine ⟨.inr hSS, ?_⟩
            have hc347 := held_in M295 (r296) (c297) ((((rnd (t) (7 : Int))) - (1 : Int)))
            refine ha_one 18 (by kernel_rfl) rfl (wn_t hF rfl rfl rfl rfl) (wp_call (vs := [_, _]) hF rfl rfl rfl rfl cf21 (held2 _ M295 (r296) (c297) ((((rnd (t) (7 : Int))) - (1 : Int))) _ (hS.rdRow 5 rfl) (by first | omega | (simp; done) | (simp; omega))) ?_)
            clear hF; rintro _ w ⟨rfl, hS1⟩ a hF
            replace hS := hS.callB hS1 rfl; clear hS1
            replace hSS := hS.sub [4, 2, 1] (by decide) rfl (by simp)
            refine ⟨.inr hSS, ?_⟩
            refine ha_y 19 hF rfl rfl rfl (wn_t hF rfl rfl rfl rfl) (.inr hSS) (yl_bin hF rfl rfl rfl rfl (fun _ => run_eql)) ?_
            clear hF; intro a hF
            replace hF := fr_set (b' := true) hF (by simp)
            refine ha_y 20 hF rfl rfl rfl (wn_none rfl) (.inr hSS) (yl_pick (u := _) (v := undef) hF rfl rfl (fun _ => rfl) (fun h => by cases h)) ?_
            clear hF; intro a hF
            refine ha_y 21 hF rfl rfl rfl (wn_none rfl) (.inr hSS) (yl_move hF rfl rfl) ?_
            clear hF; intro a hF
            refine ha_l 22 hF rfl rfl rfl (wn_t hF rfl rfl rfl rfl) hSS (yl_loadK (rs := [_, _, _]) (fun _ h => h) hF rfl rfl 0 rfl ag24 sz24 rfl rfl) ?_
            clear hF; intro a hF
            refine ha_l 24 hF rfl rfl rfl (wn_t hF rfl rfl rfl rfl) hSS (yl_loadK (rs := [_, _, _]) (fun _ h => h) hF rfl rfl 0 rfl ag24 sz24 rfl rfl) ?_
            clear hF; intro a hF
            have hc348 := count_in M295 (r296) (c297) (-1)
            refine ha_one 23 (by kernel_rfl) rfl (wn_t hF rfl rfl rfl rfl) (wp_call (vs := [_]) hF rfl rfl rfl rfl cf10 (free1 _ M295 (r296) (c297) _ (hS.rdRow 5 rfl) (by first | omega | (simp; done) | (simp; omega))) ?_)
            clear hF; rintro _ w ⟨rfl, hS1⟩ a hF
            replace hS := hS.callB hS1 rfl; clear hS1
            replace hSS := hS.sub [4, 2, 1] (by decide) rfl (by simp)
            refine ⟨.inr hSS, ?_⟩
            have hc349 := count_in M295 (r296) (c297) (-1)
            refine ha_one 25 (by kernel_rfl) rfl (wn_t hF rfl rfl rfl rfl) (wp_call (vs := [_]) hF rfl rfl rfl rfl cf22 (free2 _ M295 (r296) (c297) _ (hS.rdRow 5 rfl) (by first | omega | (simp; done) | (simp; omega))) ?_)
            clear hF; rintro _ w ⟨rfl, hS1⟩ a hF
            replace hS := hS.callB hS1 rfl; clear hS1
            replace hSS := hS.sub [4, 2, 1] (by decide) rfl (by simp)
            refine ⟨.inr hSS, ?_⟩
            refine ha_y 26 hF rfl rfl rfl (wn_t hF rfl rfl rfl rfl) (.inr hSS) (yl_bin hF rfl rfl rfl rfl (fun _ => run_eql)) ?_
            clear hF; intro a hF
            replace hF := fr_set (b' := true) hF (by simp)
            refine ha_y 27 hF rfl rfl rfl (wn_none rfl) (.inr hSS) (yl_pick (u := _) (v := undef) hF rfl rfl (fun _ => rfl) (fun h => by cases h)) ?_
            clear hF; intro a hF
            refine ha_y 28 hF rfl rfl rfl (wn_none rfl) (.inr hSS) (yl_move hF rfl rfl) ?_
            clear hF; intro a hF
            refine ha_one 29 (by kernel_rfl) rfl (wn_t hF rfl rfl rfl rfl) (wp_call (vs := []) hF rfl rfl rfl rfl cf12 (awake_any _) ?_)
            clear hF; rintro _ w ⟨rfl, hS1⟩ a hF
            replace hS := hS.callB hS1 rfl; clear hS1
            replace hSS := hS.sub [4, 2, 1] (by decide) rfl (by simp)
            refine ⟨.inr hSS, ?_⟩
            refine ha_y 30 hF rfl rfl rfl (wn_none rfl) (.inr hSS) (yl_pick (u := _) (v := undef) hF rfl rfl (fun _ => rfl) (fun h => by cases h)) ?_
            clear hF; intro a hF
            refine ha_y 31 hF rfl rfl rfl (wn_none rfl) (.inr hSS) (yl_assign hF rfl rfl) ?_
            clear hF; intro a hF
            refine ha_done (by kernel_rfl) ?_ _
            refine then_n ?_
            refine wp_ret ?_
            refine ret_t hF rfl rfl ?_
            exact ⟨_, rfl, rfl, (hS.sub [] (by decide) (by first | rfl | simp) (by simp))⟩
        · skip
          refine ha_op 8 rfl (wn_none rfl) (wp_alloc (cs := #[_, _, _]) hF hS rfl rfl rfl zr24 rfl ?_)
          clear hF hS; intro a w g350 hF hS
          replace hSS := hS.sub [1] (by decide) rfl (by simp)
          refine ⟨.inr hSS, ?_⟩
          refine ha_one 4 (by kernel_rfl) rfl (wn_none rfl) (wp_call (vs := [_, _]) hF rfl rfl rfl rfl cf16 (put1 _ M295 (r296) (c297) ((((rnd (k) (10 : Int))) - (1 : Int))) _ (hS.rdRow 2 rfl) (by first | omega | (simp; done) | (simp; omega))) ?_)
          clear hF; rintro _ w ⟨v351, L352, b353, rfl, hp354, hS1⟩ a hF
          replace hS := hS.callB hS1 rfl; clear hS1
          obtain ⟨Av351, cv351, rfl⟩ := hS.form 0 rfl
          have hlhp354 := put_len hp354
          replace hSS := hS.sub [2] (by decide) rfl (by simp)
          refine ⟨.inr hSS, ?_⟩
          refine ha_y 5 hF rfl rfl rfl (wn_none rfl) (.inr hSS) (yl_move hF rfl rfl) ?_
          clear hF; intro a hF
          refine ha_y 6 hF rfl rfl rfl (wn_none rfl) (.inr hSS) (yl_extract hF rfl rfl rfl) ?_
          clear hF; intro a hF
          refine ha_y 7 hF rfl rfl rfl (wn_none rfl) (.inr hSS) (yl_extract hF rfl rfl rfl) ?_
          clear hF; intro a hF
          refine ha_one 9 (by kernel_rfl) rfl (wn_none rfl) (wp_store (cs' := #[_, _, _]) hF hS rfl rfl rfl rfl 1 rfl sz24 (by simp [Value.cells, Value.oneCell']) (by simp [Value.cells]) rfl ?_)
          clear hF hS; intro a w hF hS
          replace hSS := hS.sub [2] (by decide) rfl (by simp)
          refine ⟨.inr hSS, ?_⟩
          refine ha_y 10 hF rfl rfl rfl (wn_none rfl) (.inr hSS) (yl_assign hF rfl rfl) ?_
          clear hF; intro a hF
          refine ha_done (by kernel_rfl) ?_ _
          refine then_n ?_
          refine c_seq ?_
          refine ha_startS hS [2] 11 (by kernel_rfl) ?_; clear hS; intro w hS
          have hSS := hS.sub [2] (by decide) rfl (by simp)
          refine ha_y 1 hF rfl rfl rfl (wn_none rfl) (.inr hSS) (yl_move hF rfl rfl) ?_
          clear hF; intro a hF
          refine ha_l 0 hF rfl rfl rfl (wn_none rfl) hSS (yl_loadK (rs := [_, _, _]) (fun _ h => h) hF rfl rfl 0 rfl ag24 sz24 rfl rfl) ?_
          clear hF; intro a hF
          refine ha_all (rs := [2, 8]) (by kernel_rfl) (by simp) ?_
          refine List.forall_mem_cons.2 ⟨?_, List.forall_mem_cons.2 ⟨?_, (fun _ h => by cases h)⟩⟩
          · skip
            have hr355 := rnd_bounds (k) (10 : Int) (by omega)
            refine ha_op 2 rfl (wn_none rfl) (wp_call (vs := [_, _]) hF rfl rfl rfl rfl cf8 (round_any (k) (10 : Int) _ (by omega)) ?_)
            clear hF; rintro _ w ⟨rfl, hS1⟩ a hF
            replace hS := hS.callB hS1 rfl; clear hS1
            replace hSS := hS.sub [2] (by decide) rfl (by simp)
            refine ⟨.inr hSS, ?_⟩
            refine ha_y 3 hF rfl rfl rfl (wn_none rfl) (.inr hSS) (yl_bin hF rfl rfl rfl rfl (fun _ => run_sub (by refine ⟨?_, ?_⟩ <;> omega))) ?_
            clear hF; intro a hF
            refine ha_all (rs := [4, 8]) (by kernel_rfl) (by simp) ?_
            refine List.forall_mem_cons.2 ⟨?_, List.forall_mem_cons.2 ⟨?_, (fun _ h => by cases h)⟩⟩
            · skip
              refine ha_op 4 rfl (wn_none rfl) (wp_call (vs := [_, _]) hF rfl rfl rfl rfl cf17 (put2 _ M295 (r296) (c297) ((((rnd (k) (10 : Int))) - (1 : Int))) _ (hS.rdRow 3 rfl) (by first | omega | (simp; done) | (simp; omega))) ?_)
              clear hF; rintro _ w ⟨v356, L357, b358, rfl, hp359, hS1⟩ a hF
              replace hS := hS.callB hS1 rfl; clear hS1
              obtain ⟨Av356, cv356, rfl⟩ := hS.form 0 rfl
              have hlhp359 := put_len hp359
              have hq := hp354.symm.trans hp359; injection hq with h1 h2; subst h1 h2
              replace hSS := hS.sub [3] (by decide) rfl (by simp)
              refine ⟨.inr hSS, ?_⟩
              refine ha_y 5 hF rfl rfl rfl (wn_none rfl) (.inr hSS) (yl_move hF rfl rfl) ?_
              clear hF; intro a hF
              refine ha_y 6 hF rfl rfl rfl (wn_none rfl) (.inr hSS) (yl_extract hF rfl rfl rfl) ?_
              clear hF; intro a hF
              refine ha_y 7 hF rfl rfl rfl (wn_none rfl) (.inr hSS) (yl_extract hF rfl rfl rfl) ?_
              clear hF; intro a hF
              refine ha_one 8 (by kernel_rfl) rfl (wn_none rfl) (wp_alloc (cs := #[_, _, _]) hF hS rfl rfl rfl zr24 rfl ?_)
              clear hF hS; intro a w g360 hF hS
              replace hSS := hS.sub [4] (by decide) rfl (by simp)
              refine ⟨.inr hSS, ?_⟩
              refine ha_one 9 (by kernel_rfl) rfl (wn_none rfl) (wp_store (cs' := #[_, _, _]) hF hS rfl rfl rfl rfl 0 rfl sz24 (by simp [Value.cells, Value.oneCell']) (by simp [Value.cells]) rfl ?_)
              clear hF hS; intro a w hF hS
              replace hSS := hS.sub [4] (by decide) rfl (by simp)
              refine ⟨.inr hSS, ?_⟩
              refine ha_y 10 hF rfl rfl rfl (wn_none rfl) (.inr hSS) (yl_assign hF rfl rfl) ?_
              clear hF; intro a hF
              refine ha_done (by kernel_rfl) ?_ _
              refine then_n ?_
              refine c_seq ?_
              refine ha_startS hS [4, 3, 0] 32 (by kernel_rfl) ?_; clear hS; intro w hS
              have hSS := hS.sub [4, 3, 0] (by decide) rfl (by simp)
              refine ha_l 0 hF rfl rfl rfl (wn_none rfl) hSS (yl_loadK (rs := [_, _, _]) (fun _ h => h) hF rfl rfl 0 rfl ag24 sz24 rfl rfl) ?_
              clear hF; intro a hF
              refine ha_one 1 (by kernel_rfl) rfl (wn_none rfl) (wp_call (vs := [_]) hF rfl rfl rfl rfl cf18 (valid1 _ M295 (r296) (c297) _ (hS.rdRow 5 rfl) (by first | omega | (simp; done) | (simp; omega))) ?_)
              clear hF; rintro _ w ⟨rfl, hS1⟩ a hF
              replace hS := hS.callB hS1 rfl; clear hS1
              replace hSS := hS.sub [4, 3, 0] (by decide) rfl (by simp)
              refine ⟨.inr hSS, ?_⟩
              replace hF := fr_set (b' := true) hF (by rw [decide_eq_true_eq]; exact hv298)
              refine ha_y 2 hF rfl rfl rfl (wn_none rfl) (.inr hSS) (yl_move hF rfl rfl) ?_
              clear hF; intro a hF
              refine ha_l 3 hF rfl rfl rfl (wn_t hF rfl rfl rfl rfl) hSS (yl_loadK (rs := [_, _, _]) (fun _ h => h) hF rfl rfl 1 rfl ag24 sz24 rfl rfl) ?_
              clear hF; intro a hF
              refine ha_l 4 hF rfl rfl rfl (wn_t hF rfl rfl rfl rfl) hSS (yl_loadK (rs := [_, _, _]) (fun _ h => h) hF rfl rfl 2 rfl ag24 sz24 rfl rfl) ?_
              clear hF; intro a hF
              refine ha_one 5 (by kernel_rfl) rfl (wn_t hF rfl rfl rfl rfl) (wp_call (vs := [_, _]) hF rfl rfl rfl rfl cf20 (sameT _ _ L352 L352 (r296) (c297) (r296) (c297) _ (hS.rdRow 2 rfl) (hS.rdRow 1 rfl) (by first | omega | (simp; done) | (simp; omega)) (by first | omega | (simp; done) | (simp; omega))) ?_)
              clear hF; rintro _ w ⟨rfl, hS1⟩ a hF
              replace hS := hS.callB hS1 rfl; clear hS1
              replace hSS := hS.sub [4, 3, 0] (by decide) rfl (by simp)
              refine ⟨.inr hSS, ?_⟩
              replace hF := fr_set (b' := true) hF (by simp)
              refine ha_y 6 hF rfl rfl rfl (wn_none rfl) (.inr hSS) (yl_pick (u := _) (v := undef) hF rfl rfl (fun _ => rfl) (fun h => by cases h)) ?_
              clear hF; intro a hF
              refine ha_y 7 hF rfl rfl rfl (wn_none rfl) (.inr hSS) (yl_move hF rfl rfl) ?_
              clear hF; intro a hF
              refine ha_y 8 hF rfl rfl rfl (wn_t hF rfl rfl rfl rfl) (.inr hSS) (yl_move hF rfl rfl) ?_
              clear hF; intro a hF
              refine ha_y 9 hF rfl rfl rfl (wn_t hF rfl rfl rfl rfl) (.inr hSS) (yl_move hF rfl rfl) ?_
              clear hF; intro a hF
              refine ha_y 10 hF rfl rfl rfl (wn_t hF rfl rfl rfl rfl) (.inr hSS) (yl_bin hF rfl rfl rfl rfl (fun _ => run_eqb Try.underlying4)) ?_
              clear hF; intro a hF
              replace hF := fr_set (b' := true) hF (by simp)
              refine ha_y 11 hF rfl rfl rfl (wn_none rfl) (.inr hSS) (yl_pick (u := _) (v := undef) hF rfl rfl (fun _ => rfl) (fun h => by cases h)) ?_
              clear hF; intro a hF
              refine ha_y 12 hF rfl rfl rfl (wn_none rfl) (.inr hSS) (yl_move hF rfl rfl) ?_
              clear hF; intro a hF
              refine ha_y 14 hF rfl rfl rfl (wn_t hF rfl rfl rfl rfl) (.inr hSS) (yl_move hF rfl rfl) ?_
              clear hF; intro a hF
              refine ha_y 17 hF rfl rfl rfl (wn_t hF rfl rfl rfl rfl) (.inr hSS) (yl_move hF rfl rfl) ?_
              clear hF; intro a hF
              refine ha_l 13 hF rfl rfl rfl (wn_t hF rfl rfl rfl rfl) hSS (yl_loadK (rs := [_, _, _]) (fun _ h => h) hF rfl rfl 0 rfl ag24 sz24 rfl rfl) ?_
              clear hF; intro a hF
              refine ha_l 16 hF rfl rfl rfl (wn_t hF rfl rfl rfl rfl) hSS (yl_loadK (rs := [_, _, _]) (fun _ h => h) hF rfl rfl 0 rfl ag24 sz24 rfl rfl) ?_
              clear hF; intro a hF
              have hc361 := held_in M295 (r296) (c297) ((((rnd (t) (7 : Int))) - (1 : Int)))
              refine ha_one 15 (by kernel_rfl) rfl (wn_t hF rfl rfl rfl rfl) (wp_call (vs := [_, _]) hF rfl rfl rfl rfl cf11 (held1 _ M295 (r296) (c297) ((((rnd (t) (7 : Int))) - (1 : Int))) _ (hS.rdRow 5 rfl) (by first | omega | (simp; done) | (simp; omega))) ?_)
              clear hF; rintro _ w ⟨rfl, hS1⟩ a hF
              replace hS := hS.callB hS1 rfl; clear hS1
              replace hSS := hS.sub [4, 3, 0] (by decide) rfl (by simp)
              refine ⟨.inr hSS, ?_⟩
              have hc362 := held_in M295 (r296) (c297) ((((rnd (t) (7 : Int))) - (1 : Int)))
              refine ha_one 18 (by kernel_rfl) rfl (wn_t hF rfl rfl rfl rfl) (wp_call (vs := [_, _]) hF rfl rfl rfl rfl cf21 (held2 _ M295 (r296) (c297) ((((rnd (t) (7 : Int))) - (1 : Int))) _ (hS.rdRow 5 rfl) (by first | omega | (simp; done) | (simp; omega))) ?_)
              clear hF; rintro _ w ⟨rfl, hS1⟩ a hF
              replace hS := hS.callB hS1 rfl; clear hS1
              replace hSS := hS.sub [4, 3, 0] (by decide) rfl (by simp)
              refine ⟨.inr hSS, ?_⟩
              refine ha_y 19 hF rfl rfl rfl (wn_t hF rfl rfl rfl rfl) (.inr hSS) (yl_bin hF rfl rfl rfl rfl (fun _ => run_eql)) ?_
              clear hF; intro a hF
              replace hF := fr_set (b' := true) hF (by simp)
              refine ha_y 20 hF rfl rfl rfl (wn_none rfl) (.inr hSS) (yl_pick (u := _) (v := undef) hF rfl rfl (fun _ => rfl) (fun h => by cases h)) ?_
              clear hF; intro a hF
              refine ha_y 21 hF rfl rfl rfl (wn_none rfl) (.inr hSS) (yl_move hF rfl rfl) ?_
              clear hF; intro a hF
              refine ha_l 22 hF rfl rfl rfl (wn_t hF rfl rfl rfl rfl) hSS (yl_loadK (rs := [_, _, _]) (fun _ h => h) hF rfl rfl 0 rfl ag24 sz24 rfl rfl) ?_
              clear hF; intro a hF
              refine ha_l 24 hF rfl rfl rfl (wn_t hF rfl rfl rfl rfl) hSS (yl_loadK (rs := [_, _, _]) (fun _ h => h) hF rfl rfl 0 rfl ag24 sz24 rfl rfl) ?_
              clear hF; intro a hF
              have hc363 := count_in M295 (r296) (c297) (-1)
              refine ha_one 23 (by kernel_rfl) rfl (wn_t hF rfl rfl rfl rfl) (wp_call (vs := [_]) hF rfl rfl rfl rfl cf10 (free1 _ M295 (r296) (c297) _ (hS.rdRow 5 rfl) (by first | omega | (simp; done) | (simp; omega))) ?_)
              clear hF; rintro _ w ⟨rfl, hS1⟩ a hF
              replace hS := hS.callB hS1 rfl; clear hS1
              replace hSS := hS.sub [4, 3, 0] (by decide) rfl (by simp)
              refine ⟨.inr hSS, ?_⟩
              have hc364 := count_in M295 (r296) (c297) (-1)
              refine ha_one 25 (by kernel_rfl) rfl (wn_t hF rfl rfl rfl rfl) (wp_call (vs := [_]) hF rfl rfl rfl rfl cf22 (free2 _ M295 (r296) (c297) _ (hS.rdRow 5 rfl) (by first | omega | (simp; done) | (simp; omega))) ?_)
              clear hF; rintro _ w ⟨rfl, hS1⟩ a hF
              replace hS := hS.callB hS1 rfl; clear hS1
              replace hSS := hS.sub [4, 3, 0] (by decide) rfl (by simp)
              refine ⟨.inr hSS, ?_⟩
              refine ha_y 26 hF rfl rfl rfl (wn_t hF rfl rfl rfl rfl) (.inr hSS) (yl_bin hF rfl rfl rfl rfl (fun _ => run_eql)) ?_
              clear hF; intro a hF
              replace hF := fr_set (b' := true) hF (by simp)
              refine ha_y 27 hF rfl rfl rfl (wn_none rfl) (.inr hSS) (yl_pick (u := _) (v := undef) hF rfl rfl (fun _ => rfl) (fun h => by cases h)) ?_
              clear hF; intro a hF
              refine ha_y 28 hF rfl rfl rfl (wn_none rfl) (.inr hSS) (yl_move hF rfl rfl) ?_
              clear hF; intro a hF
              refine ha_one 29 (by kernel_rfl) rfl (wn_t hF rfl rfl rfl rfl) (wp_call (vs := []) hF rfl rfl rfl rfl cf12 (awake_any _) ?_)
              clear hF; rintro _ w ⟨rfl, hS1⟩ a hF
              replace hS := hS.callB hS1 rfl; clear hS1
              replace hSS := hS.sub [4, 3, 0] (by decide) rfl (by simp)
              refine ⟨.inr hSS, ?_⟩
              refine ha_y 30 hF rfl rfl rfl (wn_none rfl) (.inr hSS) (yl_pick (u := _) (v := undef) hF rfl rfl (fun _ => rfl) (fun h => by cases h)) ?_
              clear hF; intro a hF
              refine ha_y 31 hF rfl rfl rfl (wn_none rfl) (.inr hSS) (yl_assign hF rfl rfl) ?_
              clear hF; intro a hF
              refine ha_done (by kernel_rfl) ?_ _
              refine then_n ?_
              refine wp_ret ?_
              refine ret_t hF rfl rfl ?_
              exact ⟨_, rfl, rfl, (hS.sub [] (by decide) (by first | rfl | simp) (by simp))⟩
            · skip
              refine ha_op 8 rfl (wn_none rfl) (wp_alloc (cs := #[_, _, _]) hF hS rfl rfl rfl zr24 rfl ?_)
              clear hF hS; intro a w g365 hF hS
              replace hSS := hS.sub [3] (by decide) rfl (by simp)
              refine ⟨.inr hSS, ?_⟩
              refine ha_one 4 (by kernel_rfl) rfl (wn_none rfl) (wp_call (vs := [_, _]) hF rfl rfl rfl rfl cf17 (put2 _ M295 (r296) (c297) ((((rnd (k) (10 : Int))) - (1 : Int))) _ (hS.rdRow 4 rfl) (by first | omega | (simp; done) | (simp; omega))) ?_)
              clear hF; rintro _ w ⟨v366, L367, b368, rfl, hp369, hS1⟩ a hF
              replace hS := hS.callB hS1 rfl; clear hS1
              obtain ⟨Av366, cv366, rfl⟩ := hS.form 0 rfl
              have hlhp369 := put_len hp369
              have hq := hp354.symm.trans hp369; injection hq with h1 h2; subst h1 h2
              replace hSS := hS.sub [4] (by decide) rfl (by simp)
              refine ⟨.inr hSS, ?_⟩
              refine ha_y 5 hF rfl rfl rfl (wn_none rfl) (.inr hSS) (yl_move hF rfl rfl) ?_
              clear hF; intro a hF
              refine ha_y 6 hF rfl rfl rfl (wn_none rfl) (.inr hSS) (yl_extract hF rfl rfl rfl) ?_
              clear hF; intro a hF
              refine ha_y 7 hF rfl rfl rfl (wn_none rfl) (.inr hSS) (yl_extract hF rfl rfl rfl) ?_
              clear hF; intro a hF
              refine ha_one 9 (by kernel_rfl) rfl (wn_none rfl) (wp_store (cs' := #[_, _, _]) hF hS rfl rfl rfl rfl 1 rfl sz24 (by simp [Value.cells, Value.oneCell']) (by simp [Value.cells]) rfl ?_)
              clear hF hS; intro a w hF hS
              replace hSS := hS.sub [4] (by decide) rfl (by simp)
              refine ⟨.inr hSS, ?_⟩
              refine ha_y 10 hF rfl rfl rfl (wn_none rfl) (.inr hSS) (yl_assign hF rfl rfl) ?_
              clear hF; intro a hF
              refine ha_done (by kernel_rfl) ?_ _
              refine then_n ?_
              refine c_seq ?_
              refine ha_startS hS [4, 3, 1] 32 (by kernel_rfl) ?_; clear hS; intro w hS
              have hSS := hS.sub [4, 3, 1] (by decide) rfl (by simp)
              refine ha_l 0 hF rfl rfl rfl (wn_none rfl) hSS (yl_loadK (rs := [_, _, _]) (fun _ h => h) hF rfl rfl 0 rfl ag24 sz24 rfl rfl) ?_
              clear hF; intro a hF
              refine ha_one 1 (by kernel_rfl) rfl (wn_none rfl) (wp_call (vs := [_]) hF rfl rfl rfl rfl cf18 (valid1 _ M295 (r296) (c297) _ (hS.rdRow 5 rfl) (by first | omega | (simp; done) | (simp; omega))) ?_)
              clear hF; rintro _ w ⟨rfl, hS1⟩ a hF
              replace hS := hS.callB hS1 rfl; clear hS1
              replace hSS := hS.sub [4, 3, 1] (by decide) rfl (by simp)
              refine ⟨.inr hSS, ?_⟩
              replace hF := fr_set (b' := true) hF (by rw [decide_eq_true_eq]; exact hv298)
              refine ha_y 2 hF rfl rfl rfl (wn_none rfl) (.inr hSS) (yl_move hF rfl rfl) ?_
              clear hF; intro a hF
              refine ha_l 3 hF rfl rfl rfl (wn_t hF rfl rfl rfl rfl) hSS (yl_loadK (rs := [_, _, _]) (fun _ h => h) hF rfl rfl 1 rfl ag24 sz24 rfl rfl) ?_
              clear hF; intro a hF
              refine ha_l 4 hF rfl rfl rfl (wn_t hF rfl rfl rfl rfl) hSS (yl_loadK (rs := [_, _, _]) (fun _ h => h) hF rfl rfl 2 rfl ag24 sz24 rfl rfl) ?_
              clear hF; intro a hF
              refine ha_one 5 (by kernel_rfl) rfl (wn_t hF rfl rfl rfl rfl) (wp_call (vs := [_, _]) hF rfl rfl rfl rfl cf20 (sameT _ _ L352 L352 (r296) (c297) (r296) (c297) _ (hS.rdRow 2 rfl) (hS.rdRow 0 rfl) (by first | omega | (simp; done) | (simp; omega)) (by first | omega | (simp; done) | (simp; omega))) ?_)
              clear hF; rintro _ w ⟨rfl, hS1⟩ a hF
              replace hS := hS.callB hS1 rfl; clear hS1
              replace hSS := hS.sub [4, 3, 1] (by decide) rfl (by simp)
              refine ⟨.inr hSS, ?_⟩
              replace hF := fr_set (b' := true) hF (by simp)
              refine ha_y 6 hF rfl rfl rfl (wn_none rfl) (.inr hSS) (yl_pick (u := _) (v := undef) hF rfl rfl (fun _ => rfl) (fun h => by cases h)) ?_
              clear hF; intro a hF
              refine ha_y 7 hF rfl rfl rfl (wn_none rfl) (.inr hSS) (yl_move hF rfl rfl) ?_
              clear hF; intro a hF
              refine ha_y 8 hF rfl rfl rfl (wn_t hF rfl rfl rfl rfl) (.inr hSS) (yl_move hF rfl rfl) ?_
              clear hF; intro a hF
              refine ha_y 9 hF rfl rfl rfl (wn_t hF rfl rfl rfl rfl) (.inr hSS) (yl_move hF rfl rfl) ?_
              clear hF; intro a hF
              refine ha_y 10 hF rfl rfl rfl (wn_t hF rfl rfl rfl rfl) (.inr hSS) (yl_bin hF rfl rfl rfl rfl (fun _ => run_eqb Try.underlying4)) ?_
              clear hF; intro a hF
              replace hF := fr_set (b' := true) hF (by simp)
              refine ha_y 11 hF rfl rfl rfl (wn_none rfl) (.inr hSS) (yl_pick (u := _) (v := undef) hF rfl rfl (fun _ => rfl) (fun h => by cases h)) ?_
              clear hF; intro a hF
              refine ha_y 12 hF rfl rfl rfl (wn_none rfl) (.inr hSS) (yl_move hF rfl rfl) ?_
              clear hF; intro a hF
              refine ha_y 14 hF rfl rfl rfl (wn_t hF rfl rfl rfl rfl) (.inr hSS) (yl_move hF rfl rfl) ?_
              clear hF; intro a hF
              refine ha_y 17 hF rfl rfl rfl (wn_t hF rfl rfl rfl rfl) (.inr hSS) (yl_move hF rfl rfl) ?_
              clear hF; intro a hF
              refine ha_l 13 hF rfl rfl rfl (wn_t hF rfl rfl rfl rfl) hSS (yl_loadK (rs := [_, _, _]) (fun _ h => h) hF rfl rfl 0 rfl ag24 sz24 rfl rfl) ?_
              clear hF; intro a hF
              refine ha_l 16 hF rfl rfl rfl (wn_t hF rfl rfl rfl rfl) hSS (yl_loadK (rs := [_, _, _]) (fun _ h => h) hF rfl rfl 0 rfl ag24 sz24 rfl rfl) ?_
              clear hF; intro a hF
              have hc370 := held_in M295 (r296) (c297) ((((rnd (t) (7 : Int))) - (1 : Int)))
              refine ha_one 15 (by kernel_rfl) rfl (wn_t hF rfl rfl rfl rfl) (wp_call (vs := [_, _]) hF rfl rfl rfl rfl cf11 (held1 _ M295 (r296) (c297) ((((rnd (t) (7 : Int))) - (1 : Int))) _ (hS.rdRow 5 rfl) (by first | omega | (simp; done) | (simp; omega))) ?_)
              clear hF; rintro _ w ⟨rfl, hS1⟩ a hF
              replace hS := hS.callB hS1 rfl; clear hS1
              replace hSS := hS.sub [4, 3, 1] (by decide) rfl (by simp)
              refine ⟨.inr hSS, ?_⟩
              have hc371 := held_in M295 (r296) (c297) ((((rnd (t) (7 : Int))) - (1 : Int)))
              refine ha_one 18 (by kernel_rfl) rfl (wn_t hF rfl rfl rfl rfl) (wp_call (vs := [_, _]) hF rfl rfl rfl rfl cf21 (held2 _ M295 (r296) (c297) ((((rnd (t) (7 : Int))) - (1 : Int))) _ (hS.rdRow 5 rfl) (by first | omega | (simp; done) | (simp; omega))) ?_)
              clear hF; rintro _ w ⟨rfl, hS1⟩ a hF
              replace hS := hS.callB hS1 rfl; clear hS1
              replace hSS := hS.sub [4, 3, 1] (by decide) rfl (by simp)
              refine ⟨.inr hSS, ?_⟩
              refine ha_y 19 hF rfl rfl rfl (wn_t hF rfl rfl rfl rfl) (.inr hSS) (yl_bin hF rfl rfl rfl rfl (fun _ => run_eql)) ?_
              clear hF; intro a hF
              replace hF := fr_set (b' := true) hF (by simp)
              refine ha_y 20 hF rfl rfl rfl (wn_none rfl) (.inr hSS) (yl_pick (u := _) (v := undef) hF rfl rfl (fun _ => rfl) (fun h => by cases h)) ?_
              clear hF; intro a hF
              refine ha_y 21 hF rfl rfl rfl (wn_none rfl) (.inr hSS) (yl_move hF rfl rfl) ?_
              clear hF; intro a hF
              refine ha_l 22 hF rfl rfl rfl (wn_t hF rfl rfl rfl rfl) hSS (yl_loadK (rs := [_, _, _]) (fun _ h => h) hF rfl rfl 0 rfl ag24 sz24 rfl rfl) ?_
              clear hF; intro a hF
              refine ha_l 24 hF rfl rfl rfl (wn_t hF rfl rfl rfl rfl) hSS (yl_loadK (rs := [_, _, _]) (fun _ h => h) hF rfl rfl 0 rfl ag24 sz24 rfl rfl) ?_
              clear hF; intro a hF
              have hc372 := count_in M295 (r296) (c297) (-1)
              refine ha_one 23 (by kernel_rfl) rfl (wn_t hF rfl rfl rfl rfl) (wp_call (vs := [_]) hF rfl rfl rfl rfl cf10 (free1 _ M295 (r296) (c297) _ (hS.rdRow 5 rfl) (by first | omega | (simp; done) | (simp; omega))) ?_)
              clear hF; rintro _ w ⟨rfl, hS1⟩ a hF
              replace hS := hS.callB hS1 rfl; clear hS1
              replace hSS := hS.sub [4, 3, 1] (by decide) rfl (by simp)
              refine ⟨.inr hSS, ?_⟩
              have hc373 := count_in M295 (r296) (c297) (-1)
              refine ha_one 25 (by kernel_rfl) rfl (wn_t hF rfl rfl rfl rfl) (wp_call (vs := [_]) hF rfl rfl rfl rfl cf22 (free2 _ M295 (r296) (c297) _ (hS.rdRow 5 rfl) (by first | omega | (simp; done) | (simp; omega))) ?_)
              clear hF; rintro _ w ⟨rfl, hS1⟩ a hF
              replace hS := hS.callB hS1 rfl; clear hS1
              replace hSS := hS.sub [4, 3, 1] (by decide) rfl (by simp)
              refine ⟨.inr hSS, ?_⟩
              refine ha_y 26 hF rfl rfl rfl (wn_t hF rfl rfl rfl rfl) (.inr hSS) (yl_bin hF rfl rfl rfl rfl (fun _ => run_eql)) ?_
              clear hF; intro a hF
              replace hF := fr_set (b' := true) hF (by simp)
              refine ha_y 27 hF rfl rfl rfl (wn_none rfl) (.inr hSS) (yl_pick (u := _) (v := undef) hF rfl rfl (fun _ => rfl) (fun h => by cases h)) ?_
              clear hF; intro a hF
              refine ha_y 28 hF rfl rfl rfl (wn_none rfl) (.inr hSS) (yl_move hF rfl rfl) ?_
              clear hF; intro a hF
              refine ha_one 29 (by kernel_rfl) rfl (wn_t hF rfl rfl rfl rfl) (wp_call (vs := []) hF rfl rfl rfl rfl cf12 (awake_any _) ?_)
              clear hF; rintro _ w ⟨rfl, hS1⟩ a hF
              replace hS := hS.callB hS1 rfl; clear hS1
              replace hSS := hS.sub [4, 3, 1] (by decide) rfl (by simp)
              refine ⟨.inr hSS, ?_⟩
              refine ha_y 30 hF rfl rfl rfl (wn_none rfl) (.inr hSS) (yl_pick (u := _) (v := undef) hF rfl rfl (fun _ => rfl) (fun h => by cases h)) ?_
              clear hF; intro a hF
              refine ha_y 31 hF rfl rfl rfl (wn_none rfl) (.inr hSS) (yl_assign hF rfl rfl) ?_
              clear hF; intro a hF
              refine ha_done (by kernel_rfl) ?_ _
              refine then_n ?_
              refine wp_ret ?_
              refine ret_t hF rfl rfl ?_
              exact ⟨_, rfl, rfl, (hS.sub [] (by decide) (by first | rfl | simp) (by simp))⟩
          · skip
            refine ha_op 8 rfl (wn_none rfl) (wp_alloc (cs := #[_, _, _]) hF hS rfl rfl rfl zr24 rfl ?_)
            clear hF hS; intro a w g374 hF hS
            replace hSS := hS.sub [3] (by decide) rfl (by simp)
            refine ⟨.inr hSS, ?_⟩
            have hr375 := rnd_bounds (k) (10 : Int) (by omega)
            refine ha_one 2 (by kernel_rfl) rfl (wn_none rfl) (wp_call (vs := [_, _]) hF rfl rfl rfl rfl cf8 (round_any (k) (10 : Int) _ (by omega)) ?_)
            clear hF; rintro _ w ⟨rfl, hS1⟩ a hF
            replace hS := hS.callB hS1 rfl; clear hS1
            replace hSS := hS.sub [3] (by decide) rfl (by simp)
            refine ⟨.inr hSS, ?_⟩
            refine ha_y 3 hF rfl rfl rfl (wn_none rfl) (.inr hSS) (yl_bin hF rfl rfl rfl rfl (fun _ => run_sub (by refine ⟨?_, ?_⟩ <;> omega))) ?_
            clear hF; intro a hF
            refine ha_one 4 (by kernel_rfl) rfl (wn_none rfl) (wp_call (vs := [_, _]) hF rfl rfl rfl rfl cf17 (put2 _ M295 (r296) (c297) ((((rnd (k) (10 : Int))) - (1 : Int))) _ (hS.rdRow 4 rfl) (by first | omega | (simp; done) | (simp; omega))) ?_)
            clear hF; rintro _ w ⟨v376, L377, b378, rfl, hp379, hS1⟩ a hF
            replace hS := hS.callB hS1 rfl; clear hS1
            obtain ⟨Av376, cv376, rfl⟩ := hS.form 0 rfl
            have hlhp379 := put_len hp379
            have hq := hp354.symm.trans hp379; injection hq with h1 h2; subst h1 h2
            replace hSS := hS.sub [4] (by decide) rfl (by simp)
            refine ⟨.inr hSS, ?_⟩
            refine ha_y 5 hF rfl rfl rfl (wn_none rfl) (.inr hSS) (yl_move hF rfl rfl) ?_
            clear hF; intro a hF
            refine ha_y 6 hF rfl rfl rfl (wn_none rfl) (.inr hSS) (yl_extract hF rfl rfl rfl) ?_
            clear hF; intro a hF
            refine ha_y 7 hF rfl rfl rfl (wn_none rfl) (.inr hSS) (yl_extract hF rfl rfl rfl) ?_
            clear hF; intro a hF
            refine ha_one 9 (by kernel_rfl) rfl (wn_none rfl) (wp_store (cs' := #[_, _, _]) hF hS rfl rfl rfl rfl 1 rfl sz24 (by simp [Value.cells, Value.oneCell']) (by simp [Value.cells]) rfl ?_)
            clear hF hS; intro a w hF hS
            replace hSS := hS.sub [4] (by decide) rfl (by simp)
            refine ⟨.inr hSS, ?_⟩
            refine ha_y 10 hF rfl rfl rfl (wn_none rfl) (.inr hSS) (yl_assign hF rfl rfl) ?_
            clear hF; intro a hF
            refine ha_done (by kernel_rfl) ?_ _
            refine then_n ?_
            refine c_seq ?_
            refine ha_startS hS [4, 3, 1] 32 (by kernel_rfl) ?_; clear hS; intro w hS
            have hSS := hS.sub [4, 3, 1] (by decide) rfl (by simp)
            refine ha_l 0 hF rfl rfl rfl (wn_none rfl) hSS (yl_loadK (rs := [_, _, _]) (fun _ h => h) hF rfl rfl 0 rfl ag24 sz24 rfl rfl) ?_
            clear hF; intro a hF
            refine ha_one 1 (by kernel_rfl) rfl (wn_none rfl) (wp_call (vs := [_]) hF rfl rfl rfl rfl cf18 (valid1 _ M295 (r296) (c297) _ (hS.rdRow 5 rfl) (by first | omega | (simp; done) | (simp; omega))) ?_)
            clear hF; rintro _ w ⟨rfl, hS1⟩ a hF
            replace hS := hS.callB hS1 rfl; clear hS1
            replace hSS := hS.sub [4, 3, 1] (by decide) rfl (by simp)
            refine ⟨.inr hSS, ?_⟩
            replace hF := fr_set (b' := true) hF (by rw [decide_eq_true_eq]; exact hv298)
            refine ha_y 2 hF rfl rfl rfl (wn_none rfl) (.inr hSS) (yl_move hF rfl rfl) ?_
            clear hF; intro a hF
            refine ha_l 3 hF rfl rfl rfl (wn_t hF rfl rfl rfl rfl) hSS (yl_loadK (rs := [_, _, _]) (fun _ h => h) hF rfl rfl 1 rfl ag24 sz24 rfl rfl) ?_
            clear hF; intro a hF
            refine ha_l 4 hF rfl rfl rfl (wn_t hF rfl rfl rfl rfl) hSS (yl_loadK (rs := [_, _, _]) (fun _ h => h) hF rfl rfl 2 rfl ag24 sz24 rfl rfl) ?_
            clear hF; intro a hF
            refine ha_one 5 (by kernel_rfl) rfl (wn_t hF rfl rfl rfl rfl) (wp_call (vs := [_, _]) hF rfl rfl rfl rfl cf20 (sameT _ _ L352 L352 (r296) (c297) (r296) (c297) _ (hS.rdRow 2 rfl) (hS.rdRow 0 rfl) (by first | omega | (simp; done) | (simp; omega)) (by first | omega | (simp; done) | (simp; omega))) ?_)
            clear hF; rintro _ w ⟨rfl, hS1⟩ a hF
            replace hS := hS.callB hS1 rfl; clear hS1
            replace hSS := hS.sub [4, 3, 1] (by decide) rfl (by simp)
            refine ⟨.inr hSS, ?_⟩
            replace hF := fr_set (b' := true) hF (by simp)
            refine ha_y 6 hF rfl rfl rfl (wn_none rfl) (.inr hSS) (yl_pick (u := _) (v := undef) hF rfl rfl (fun _ => rfl) (fun h => by cases h)) ?_
            clear hF; intro a hF
            refine ha_y 7 hF rfl rfl rfl (wn_none rfl) (.inr hSS) (yl_move hF rfl rfl) ?_
            clear hF; intro a hF
            refine ha_y 8 hF rfl rfl rfl (wn_t hF rfl rfl rfl rfl) (.inr hSS) (yl_move hF rfl rfl) ?_
            clear hF; intro a hF
            refine ha_y 9 hF rfl rfl rfl (wn_t hF rfl rfl rfl rfl) (.inr hSS) (yl_move hF rfl rfl) ?_
            clear hF; intro a hF
            refine ha_y 10 hF rfl rfl rfl (wn_t hF rfl rfl rfl rfl) (.inr hSS) (yl_bin hF rfl rfl rfl rfl (fun _ => run_eqb Try.underlying4)) ?_
            clear hF; intro a hF
            replace hF := fr_set (b' := true) hF (by simp)
            refine ha_y 11 hF rfl rfl rfl (wn_none rfl) (.inr hSS) (yl_pick (u := _) (v := undef) hF rfl rfl (fun _ => rfl) (fun h => by cases h)) ?_
            clear hF; intro a hF
            refine ha_y 12 hF rfl rfl rfl (wn_none rfl) (.inr hSS) (yl_move hF rfl rfl) ?_
            clear hF; intro a hF
            refine ha_y 14 hF rfl rfl rfl (wn_t hF rfl rfl rfl rfl) (.inr hSS) (yl_move hF rfl rfl) ?_
            clear hF; intro a hF
            refine ha_y 17 hF rfl rfl rfl (wn_t hF rfl rfl rfl rfl) (.inr hSS) (yl_move hF rfl rfl) ?_
            clear hF; intro a hF
            refine ha_l 13 hF rfl rfl rfl (wn_t hF rfl rfl rfl rfl) hSS (yl_loadK (rs := [_, _, _]) (fun _ h => h) hF rfl rfl 0 rfl ag24 sz24 rfl rfl) ?_
            clear hF; intro a hF
            refine ha_l 16 hF rfl rfl rfl (wn_t hF rfl rfl rfl rfl) hSS (yl_loadK (rs := [_, _, _]) (fun _ h => h) hF rfl rfl 0 rfl ag24 sz24 rfl rfl) ?_
            clear hF; intro a hF
            have hc380 := held_in M295 (r296) (c297) ((((rnd (t) (7 : Int))) - (1 : Int)))
            refine ha_one 15 (by kernel_rfl) rfl (wn_t hF rfl rfl rfl rfl) (wp_call (vs := [_, _]) hF rfl rfl rfl rfl cf11 (held1 _ M295 (r296) (c297) ((((rnd (t) (7 : Int))) - (1 : Int))) _ (hS.rdRow 5 rfl) (by first | omega | (simp; done) | (simp; omega))) ?_)
            clear hF; rintro _ w ⟨rfl, hS1⟩ a hF
            replace hS := hS.callB hS1 rfl; clear hS1
            replace hSS := hS.sub [4, 3, 1] (by decide) rfl (by simp)
            refine ⟨.inr hSS, ?_⟩
            have hc381 := held_in M295 (r296) (c297) ((((rnd (t) (7 : Int))) - (1 : Int)))
            refine ha_one 18 (by kernel_rfl) rfl (wn_t hF rfl rfl rfl rfl) (wp_call (vs := [_, _]) hF rfl rfl rfl rfl cf21 (held2 _ M295 (r296) (c297) ((((rnd (t) (7 : Int))) - (1 : Int))) _ (hS.rdRow 5 rfl) (by first | omega | (simp; done) | (simp; omega))) ?_)
            clear hF; rintro _ w ⟨rfl, hS1⟩ a hF
            replace hS := hS.callB hS1 rfl; clear hS1
            replace hSS := hS.sub [4, 3, 1] (by decide) rfl (by simp)
            refine ⟨.inr hSS, ?_⟩
            refine ha_y 19 hF rfl rfl rfl (wn_t hF rfl rfl rfl rfl) (.inr hSS) (yl_bin hF rfl rfl rfl rfl (fun _ => run_eql)) ?_
            clear hF; intro a hF
            replace hF := fr_set (b' := true) hF (by simp)
            refine ha_y 20 hF rfl rfl rfl (wn_none rfl) (.inr hSS) (yl_pick (u := _) (v := undef) hF rfl rfl (fun _ => rfl) (fun h => by cases h)) ?_
            clear hF; intro a hF
            refine ha_y 21 hF rfl rfl rfl (wn_none rfl) (.inr hSS) (yl_move hF rfl rfl) ?_
            clear hF; intro a hF
            refine ha_l 22 hF rfl rfl rfl (wn_t hF rfl rfl rfl rfl) hSS (yl_loadK (rs := [_, _, _]) (fun _ h => h) hF rfl rfl 0 rfl ag24 sz24 rfl rfl) ?_
            clear hF; intro a hF
            refine ha_l 24 hF rfl rfl rfl (wn_t hF rfl rfl rfl rfl) hSS (yl_loadK (rs := [_, _, _]) (fun _ h => h) hF rfl rfl 0 rfl ag24 sz24 rfl rfl) ?_
            clear hF; intro a hF
            have hc382 := count_in M295 (r296) (c297) (-1)
            refine ha_one 23 (by kernel_rfl) rfl (wn_t hF rfl rfl rfl rfl) (wp_call (vs := [_]) hF rfl rfl rfl rfl cf10 (free1 _ M295 (r296) (c297) _ (hS.rdRow 5 rfl) (by first | omega | (simp; done) | (simp; omega))) ?_)
            clear hF; rintro _ w ⟨rfl, hS1⟩ a hF
            replace hS := hS.callB hS1 rfl; clear hS1
            replace hSS := hS.sub [4, 3, 1] (by decide) rfl (by simp)
            refine ⟨.inr hSS, ?_⟩
            have hc383 := count_in M295 (r296) (c297) (-1)
            refine ha_one 25 (by kernel_rfl) rfl (wn_t hF rfl rfl rfl rfl) (wp_call (vs := [_]) hF rfl rfl rfl rfl cf22 (free2 _ M295 (r296) (c297) _ (hS.rdRow 5 rfl) (by first | omega | (simp; done) | (simp; omega))) ?_)
            clear hF; rintro _ w ⟨rfl, hS1⟩ a hF
            replace hS := hS.callB hS1 rfl; clear hS1
            replace hSS := hS.sub [4, 3, 1] (by decide) rfl (by simp)
            refine ⟨.inr hSS, ?_⟩
            refine ha_y 26 hF rfl rfl rfl (wn_t hF rfl rfl rfl rfl) (.inr hSS) (yl_bin hF rfl rfl rfl rfl (fun _ => run_eql)) ?_
            clear hF; intro a hF
            replace hF := fr_set (b' := true) hF (by simp)
            refine ha_y 27 hF rfl rfl rfl (wn_none rfl) (.inr hSS) (yl_pick (u := _) (v := undef) hF rfl rfl (fun _ => rfl) (fun h => by cases h)) ?_
            clear hF; intro a hF
            refine ha_y 28 hF rfl rfl rfl (wn_none rfl) (.inr hSS) (yl_move hF rfl rfl) ?_
            clear hF; intro a hF
            refine ha_one 29 (by kernel_rfl) rfl (wn_t hF rfl rfl rfl rfl) (wp_call (vs := []) hF rfl rfl rfl rfl cf12 (awake_any _) ?_)
            clear hF; rintro _ w ⟨rfl, hS1⟩ a hF
            replace hS := hS.callB hS1 rfl; clear hS1
            replace hSS := hS.sub [4, 3, 1] (by decide) rfl (by simp)
            refine ⟨.inr hSS, ?_⟩
            refine ha_y 30 hF rfl rfl rfl (wn_none rfl) (.inr hSS) (yl_pick (u := _) (v := undef) hF rfl rfl (fun _ => rfl) (fun h => by cases h)) ?_
            clear hF; intro a hF
            refine ha_y 31 hF rfl rfl rfl (wn_none rfl) (.inr hSS) (yl_assign hF rfl rfl) ?_
            clear hF; intro a hF
            refine ha_done (by kernel_rfl) ?_ _
            refine then_n ?_
            refine wp_ret ?_
            refine ret_t hF rfl rfl ?_
            exact ⟨_, rfl, rfl, (hS.sub [] (by decide) (by first | rfl | simp) (by simp))⟩
      · skip
        refine ha_op 8 rfl (wn_none rfl) (wp_alloc (cs := #[_, _, _]) hF hS rfl rfl rfl zr24 rfl ?_)
        clear hF hS; intro a w g384 hF hS
        replace hSS := hS.sub [1] (by decide) rfl (by simp)
        refine ⟨.inr hSS, ?_⟩
        have hr385 := rnd_bounds (k) (10 : Int) (by omega)
        refine ha_one 2 (by kernel_rfl) rfl (wn_none rfl) (wp_call (vs := [_, _]) hF rfl rfl rfl rfl cf8 (round_any (k) (10 : Int) _ (by omega)) ?_)
        clear hF; rintro _ w ⟨rfl, hS1⟩ a hF
        replace hS := hS.callB hS1 rfl; clear hS1
        replace hSS := hS.sub [1] (by decide) rfl (by simp)
        refine ⟨.inr hSS, ?_⟩
        refine ha_y 3 hF rfl rfl rfl (wn_none rfl) (.inr hSS) (yl_bin hF rfl rfl rfl rfl (fun _ => run_sub (by refine ⟨?_, ?_⟩ <;> omega))) ?_
        clear hF; intro a hF
        refine ha_one 4 (by kernel_rfl) rfl (wn_none rfl) (wp_call (vs := [_, _]) hF rfl rfl rfl rfl cf16 (put1 _ M295 (r296) (c297) ((((rnd (k) (10 : Int))) - (1 : Int))) _ (hS.rdRow 2 rfl) (by first | omega | (simp; done) | (simp; omega))) ?_)
        clear hF; rintro _ w ⟨v386, L387, b388, rfl, hp389, hS1⟩ a hF
        replace hS := hS.callB hS1 rfl; clear hS1
        obtain ⟨Av386, cv386, rfl⟩ := hS.form 0 rfl
        have hlhp389 := put_len hp389
        replace hSS := hS.sub [2] (by decide) rfl (by simp)
        refine ⟨.inr hSS, ?_⟩
        refine ha_y 5 hF rfl rfl rfl (wn_none rfl) (.inr hSS) (yl_move hF rfl rfl) ?_
        clear hF; intro a hF
        refine ha_y 6 hF rfl rfl rfl (wn_none rfl) (.inr hSS) (yl_extract hF rfl rfl rfl) ?_
        clear hF; intro a hF
        refine ha_y 7 hF rfl rfl rfl (wn_none rfl) (.inr hSS) (yl_extract hF rfl rfl rfl) ?_
        clear hF; intro a hF
        refine ha_one 9 (by kernel_rfl) rfl (wn_none rfl) (wp_store (cs' := #[_, _, _]) hF hS rfl rfl rfl rfl 1 rfl sz24 (by simp [Value.cells, Value.oneCell']) (by simp [Value.cells]) rfl ?_)
        clear hF hS; intro a w hF hS
        replace hSS := hS.sub [2] (by decide) rfl (by simp)
        refine ⟨.inr hSS, ?_⟩
        refine ha_y 10 hF rfl rfl rfl (wn_none rfl) (.inr hSS) (yl_assign hF rfl rfl) ?_
        clear hF; intro a hF
        refine ha_done (by kernel_rfl) ?_ _
        refine then_n ?_
        refine c_seq ?_
        refine ha_startS hS [2] 11 (by kernel_rfl) ?_; clear hS; intro w hS
        have hSS := hS.sub [2] (by decide) rfl (by simp)
        refine ha_y 1 hF rfl rfl rfl (wn_none rfl) (.inr hSS) (yl_move hF rfl rfl) ?_
        clear hF; intro a hF
        refine ha_l 0 hF rfl rfl rfl (wn_none rfl) hSS (yl_loadK (rs := [_, _, _]) (fun _ h => h) hF rfl rfl 0 rfl ag24 sz24 rfl rfl) ?_
        clear hF; intro a hF
        refine ha_all (rs := [2, 8]) (by kernel_rfl) (by simp) ?_
        refine List.forall_mem_cons.2 ⟨?_, List.forall_mem_cons.2 ⟨?_, (fun _ h => by cases h)⟩⟩
        · skip
          have hr390 := rnd_bounds (k) (10 : Int) (by omega)
          refine ha_op 2 rfl (wn_none rfl) (wp_call (vs := [_, _]) hF rfl rfl rfl rfl cf8 (round_any (k) (10 : Int) _ (by omega)) ?_)
          clear hF; rintro _ w ⟨rfl, hS1⟩ a hF
          replace hS := hS.callB hS1 rfl; clear hS1
          replace hSS := hS.sub [2] (by decide) rfl (by simp)
          refine ⟨.inr hSS, ?_⟩
          refine ha_y 3 hF rfl rfl rfl (wn_none rfl) (.inr hSS) (yl_bin hF rfl rfl rfl rfl (fun _ => run_sub (by refine ⟨?_, ?_⟩ <;> omega))) ?_
          clear hF; intro a hF
          refine ha_all (rs := [4, 8]) (by kernel_rfl) (by simp) ?_
          refine List.forall_mem_cons.2 ⟨?_, List.forall_mem_cons.2 ⟨?_, (fun _ h => by cases h)⟩⟩
          · skip
            refine ha_op 4 rfl (wn_none rfl) (wp_call (vs := [_, _]) hF rfl rfl rfl rfl cf17 (put2 _ M295 (r296) (c297) ((((rnd (k) (10 : Int))) - (1 : Int))) _ (hS.rdRow 3 rfl) (by first | omega | (simp; done) | (simp; omega))) ?_)
            clear hF; rintro _ w ⟨v391, L392, b393, rfl, hp394, hS1⟩ a hF
            replace hS := hS.callB hS1 rfl; clear hS1
            obtain ⟨Av391, cv391, rfl⟩ := hS.form 0 rfl
            have hlhp394 := put_len hp394
            have hq := hp389.symm.trans hp394; injection hq with h1 h2; subst h1 h2
            replace hSS := hS.sub [3] (by decide) rfl (by simp)
            refine ⟨.inr hSS, ?_⟩
            refine ha_y 5 hF rfl rfl rfl (wn_none rfl) (.inr hSS) (yl_move hF rfl rfl) ?_
            clear hF; intro a hF
            refine ha_y 6 hF rfl rfl rfl (wn_none rfl) (.inr hSS) (yl_extract hF rfl rfl rfl) ?_
            clear hF; intro a hF
            refine ha_y 7 hF rfl rfl rfl (wn_none rfl) (.inr hSS) (yl_extract hF rfl rfl rfl) ?_
            clear hF; intro a hF
            refine ha_one 8 (by kernel_rfl) rfl (wn_none rfl) (wp_alloc (cs := #[_, _, _]) hF hS rfl rfl rfl zr24 rfl ?_)
            clear hF hS; intro a w g395 hF hS
            replace hSS := hS.sub [4] (by decide) rfl (by simp)
            refine ⟨.inr hSS, ?_⟩
            refine ha_one 9 (by kernel_rfl) rfl (wn_none rfl) (wp_store (cs' := #[_, _, _]) hF hS rfl rfl rfl rfl 0 rfl sz24 (by simp [Value.cells, Value.oneCell']) (by simp [Value.cells]) rfl ?_)
            clear hF hS; intro a w hF hS
            replace hSS := hS.sub [4] (by decide) rfl (by simp)
            refine ⟨.inr hSS, ?_⟩
            refine ha_y 10 hF rfl rfl rfl (wn_none rfl) (.inr hSS) (yl_assign hF rfl rfl) ?_
            clear hF; intro a hF
            refine ha_done (by kernel_rfl) ?_ _
            refine then_n ?_
            refine c_seq ?_
            refine ha_startS hS [4, 3, 0] 32 (by kernel_rfl) ?_; clear hS; intro w hS
            have hSS := hS.sub [4, 3, 0] (by decide) rfl (by simp)
            refine ha_l 0 hF rfl rfl rfl (wn_none rfl) hSS (yl_loadK (rs := [_, _, _]) (fun _ h => h) hF rfl rfl 0 rfl ag24 sz24 rfl rfl) ?_
            clear hF; intro a hF
            refine ha_one 1 (by kernel_rfl) rfl (wn_none rfl) (wp_call (vs := [_]) hF rfl rfl rfl rfl cf18 (valid1 _ M295 (r296) (c297) _ (hS.rdRow 5 rfl) (by first | omega | (simp; done) | (simp; omega))) ?_)
            clear hF; rintro _ w ⟨rfl, hS1⟩ a hF
            replace hS := hS.callB hS1 rfl; clear hS1
            replace hSS := hS.sub [4, 3, 0] (by decide) rfl (by simp)
            refine ⟨.inr hSS, ?_⟩
            replace hF := fr_set (b' := true) hF (by rw [decide_eq_true_eq]; exact hv298)
            refine ha_y 2 hF rfl rfl rfl (wn_none rfl) (.inr hSS) (yl_move hF rfl rfl) ?_
            clear hF; intro a hF
            refine ha_l 3 hF rfl rfl rfl (wn_t hF rfl rfl rfl rfl) hSS (yl_loadK (rs := [_, _, _]) (fun _ h => h) hF rfl rfl 1 rfl ag24 sz24 rfl rfl) ?_
            clear hF; intro a hF
            refine ha_l 4 hF rfl rfl rfl (wn_t hF rfl rfl rfl rfl) hSS (yl_loadK (rs := [_, _, _]) (fun _ h => h) hF rfl rfl 2 rfl ag24 sz24 rfl rfl) ?_
            clear hF; intro a hF
            refine ha_one 5 (by kernel_rfl) rfl (wn_t hF rfl rfl rfl rfl) (wp_call (vs := [_, _]) hF rfl rfl rfl rfl cf20 (sameT _ _ L387 L387 (r296) (c297) (r296) (c297) _ (hS.rdRow 2 rfl) (hS.rdRow 1 rfl) (by first | omega | (simp; done) | (simp; omega)) (by first | omega | (simp; done) | (simp; omega))) ?_)
            clear hF; rintro _ w ⟨rfl, hS1⟩ a hF
            replace hS := hS.callB hS1 rfl; clear hS1
            replace hSS := hS.sub [4, 3, 0] (by decide) rfl (by simp)
            refine ⟨.inr hSS, ?_⟩
            replace hF := fr_set (b' := true) hF (by simp)
            refine ha_y 6 hF rfl rfl rfl (wn_none rfl) (.inr hSS) (yl_pick (u := _) (v := undef) hF rfl rfl (fun _ => rfl) (fun h => by cases h)) ?_
            clear hF; intro a hF
            refine ha_y 7 hF rfl rfl rfl (wn_none rfl) (.inr hSS) (yl_move hF rfl rfl) ?_
            clear hF; intro a hF
            refine ha_y 8 hF rfl rfl rfl (wn_t hF rfl rfl rfl rfl) (.inr hSS) (yl_move hF rfl rfl) ?_
            clear hF; intro a hF
            refine ha_y 9 hF rfl rfl rfl (wn_t hF rfl rfl rfl rfl) (.inr hSS) (yl_move hF rfl rfl) ?_
            clear hF; intro a hF
            refine ha_y 10 hF rfl rfl rfl (wn_t hF rfl rfl rfl rfl) (.inr hSS) (yl_bin hF rfl rfl rfl rfl (fun _ => run_eqb Try.underlying4)) ?_
            clear hF; intro a hF
            replace hF := fr_set (b' := true) hF (by simp)
            refine ha_y 11 hF rfl rfl rfl (wn_none rfl) (.inr hSS) (yl_pick (u := _) (v := undef) hF rfl rfl (fun _ => rfl) (fun h => by cases h)) ?_
            clear hF; intro a hF
            refine ha_y 12 hF rfl rfl rfl (wn_none rfl) (.inr hSS) (yl_move hF rfl rfl) ?_
            clear hF; intro a hF
            refine ha_y 14 hF rfl rfl rfl (wn_t hF rfl rfl rfl rfl) (.inr hSS) (yl_move hF rfl rfl) ?_
            clear hF; intro a hF
            refine ha_y 17 hF rfl rfl rfl (wn_t hF rfl rfl rfl rfl) (.inr hSS) (yl_move hF rfl rfl) ?_
            clear hF; intro a hF
            refine ha_l 13 hF rfl rfl rfl (wn_t hF rfl rfl rfl rfl) hSS (yl_loadK (rs := [_, _, _]) (fun _ h => h) hF rfl rfl 0 rfl ag24 sz24 rfl rfl) ?_
            clear hF; intro a hF
            refine ha_l 16 hF rfl rfl rfl (wn_t hF rfl rfl rfl rfl) hSS (yl_loadK (rs := [_, _, _]) (fun _ h => h) hF rfl rfl 0 rfl ag24 sz24 rfl rfl) ?_
            clear hF; intro a hF
            have hc396 := held_in M295 (r296) (c297) ((((rnd (t) (7 : Int))) - (1 : Int)))
            refine ha_one 15 (by kernel_rfl) rfl (wn_t hF rfl rfl rfl rfl) (wp_call (vs := [_, _]) hF rfl rfl rfl rfl cf11 (held1 _ M295 (r296) (c297) ((((rnd (t) (7 : Int))) - (1 : Int))) _ (hS.rdRow 5 rfl) (by first | omega | (simp; done) | (simp; omega))) ?_)
            clear hF; rintro _ w ⟨rfl, hS1⟩ a hF
            replace hS := hS.callB hS1 rfl; clear hS1
            replace hSS := hS.sub [4, 3, 0] (by decide) rfl (by simp)
            refine ⟨.inr hSS, ?_⟩
            have hc397 := held_in M295 (r296) (c297) ((((rnd (t) (7 : Int))) - (1 : Int)))
            refine ha_one 18 (by kernel_rfl) rfl (wn_t hF rfl rfl rfl rfl) (wp_call (vs := [_, _]) hF rfl rfl rfl rfl cf21 (held2 _ M295 (r296) (c297) ((((rnd (t) (7 : Int))) - (1 : Int))) _ (hS.rdRow 5 rfl) (by first | omega | (simp; done) | (simp; omega))) ?_)
            clear hF; rintro _ w ⟨rfl, hS1⟩ a hF
            replace hS := hS.callB hS1 rfl; clear hS1
            replace hSS := hS.sub [4, 3, 0] (by decide) rfl (by simp)
            refine ⟨.inr hSS, ?_⟩
            refine ha_y 19 hF rfl rfl rfl (wn_t hF rfl rfl rfl rfl) (.inr hSS) (yl_bin hF rfl rfl rfl rfl (fun _ => run_eql)) ?_
            clear hF; intro a hF
            replace hF := fr_set (b' := true) hF (by simp)
            refine ha_y 20 hF rfl rfl rfl (wn_none rfl) (.inr hSS) (yl_pick (u := _) (v := undef) hF rfl rfl (fun _ => rfl) (fun h => by cases h)) ?_
            clear hF; intro a hF
            refine ha_y 21 hF rfl rfl rfl (wn_none rfl) (.inr hSS) (yl_move hF rfl rfl) ?_
            clear hF; intro a hF
            refine ha_l 22 hF rfl rfl rfl (wn_t hF rfl rfl rfl rfl) hSS (yl_loadK (rs := [_, _, _]) (fun _ h => h) hF rfl rfl 0 rfl ag24 sz24 rfl rfl) ?_
            clear hF; intro a hF
            refine ha_l 24 hF rfl rfl rfl (wn_t hF rfl rfl rfl rfl) hSS (yl_loadK (rs := [_, _, _]) (fun _ h => h) hF rfl rfl 0 rfl ag24 sz24 rfl rfl) ?_
            clear hF; intro a hF
            have hc398 := count_in M295 (r296) (c297) (-1)
            refine ha_one 23 (by kernel_rfl) rfl (wn_t hF rfl rfl rfl rfl) (wp_call (vs := [_]) hF rfl rfl rfl rfl cf10 (free1 _ M295 (r296) (c297) _ (hS.rdRow 5 rfl) (by first | omega | (simp; done) | (simp; omega))) ?_)
            clear hF; rintro _ w ⟨rfl, hS1⟩ a hF
            replace hS := hS.callB hS1 rfl; clear hS1
            replace hSS := hS.sub [4, 3, 0] (by decide) rfl (by simp)
            refine ⟨.inr hSS, ?_⟩
            have hc399 := count_in M295 (r296) (c297) (-1)
            refine ha_one 25 (by kernel_rfl) rfl (wn_t hF rfl rfl rfl rfl) (wp_call (vs := [_]) hF rfl rfl rfl rfl cf22 (free2 _ M295 (r296) (c297) _ (hS.rdRow 5 rfl) (by first | omega | (simp; done) | (simp; omega))) ?_)
            clear hF; rintro _ w ⟨rfl, hS1⟩ a hF
            replace hS := hS.callB hS1 rfl; clear hS1
            replace hSS := hS.sub [4, 3, 0] (by decide) rfl (by simp)
            refine ⟨.inr hSS, ?_⟩
            refine ha_y 26 hF rfl rfl rfl (wn_t hF rfl rfl rfl rfl) (.inr hSS) (yl_bin hF rfl rfl rfl rfl (fun _ => run_eql)) ?_
            clear hF; intro a hF
            replace hF := fr_set (b' := true) hF (by simp)
            refine ha_y 27 hF rfl rfl rfl (wn_none rfl) (.inr hSS) (yl_pick (u := _) (v := undef) hF rfl rfl (fun _ => rfl) (fun h => by cases h)) ?_
            clear hF; intro a hF
            refine ha_y 28 hF rfl rfl rfl (wn_none rfl) (.inr hSS) (yl_move hF rfl rfl) ?_
            clear hF; intro a hF
            refine ha_one 29 (by kernel_rfl) rfl (wn_t hF rfl rfl rfl rfl) (wp_call (vs := []) hF rfl rfl rfl rfl cf12 (awake_any _) ?_)
            clear hF; rintro _ w ⟨rfl, hS1⟩ a hF
            replace hS := hS.callB hS1 rfl; clear hS1
            replace hSS := hS.sub [4, 3, 0] (by decide) rfl (by simp)
            refine ⟨.inr hSS, ?_⟩
            refine ha_y 30 hF rfl rfl rfl (wn_none rfl) (.inr hSS) (yl_pick (u := _) (v := undef) hF rfl rfl (fun _ => rfl) (fun h => by cases h)) ?_
            clear hF; intro a hF
            refine ha_y 31 hF rfl rfl rfl (wn_none rfl) (.inr hSS) (yl_assign hF rfl rfl) ?_
            clear hF; intro a hF
            refine ha_done (by kernel_rfl) ?_ _
            refine then_n ?_
            refine wp_ret ?_
            refine ret_t hF rfl rfl ?_
            exact ⟨_, rfl, rfl, (hS.sub [] (by decide) (by first | rfl | simp) (by simp))⟩
          · skip
            refine ha_op 8 rfl (wn_none rfl) (wp_alloc (cs := #[_, _, _]) hF hS rfl rfl rfl zr24 rfl ?_)
            clear hF hS; intro a w g400 hF hS
            replace hSS := hS.sub [3] (by decide) rfl (by simp)
            refine ⟨.inr hSS, ?_⟩
            refine ha_one 4 (by kernel_rfl) rfl (wn_none rfl) (wp_call (vs := [_, _]) hF rfl rfl rfl rfl cf17 (put2 _ M295 (r296) (c297) ((((rnd (k) (10 : Int))) - (1 : Int))) _ (hS.rdRow 4 rfl) (by first | omega | (simp; done) | (simp; omega))) ?_)
            clear hF; rintro _ w ⟨v401, L402, b403, rfl, hp404, hS1⟩ a hF
            replace hS := hS.callB hS1 rfl; clear hS1
            obtain ⟨Av401, cv401, rfl⟩ := hS.form 0 rfl
            have hlhp404 := put_len hp404
            have hq := hp389.symm.trans hp404; injection hq with h1 h2; subst h1 h2
            replace hSS := hS.sub [4] (by decide) rfl (by simp)
            refine ⟨.inr hSS, ?_⟩
            refine ha_y 5 hF rfl rfl rfl (wn_none rfl) (.inr hSS) (yl_move hF rfl rfl) ?_
            clear hF; intro a hF
            refine ha_y 6 hF rfl rfl rfl (wn_none rfl) (.inr hSS) (yl_extract hF rfl rfl rfl) ?_
            clear hF; intro a hF
            refine ha_y 7 hF rfl rfl rfl (wn_none rfl) (.inr hSS) (yl_extract hF rfl rfl rfl) ?_
            clear hF; intro a hF
            refine ha_one 9 (by kernel_rfl) rfl (wn_none rfl) (wp_store (cs' := #[_, _, _]) hF hS rfl rfl rfl rfl 1 rfl sz24 (by simp [Value.cells, Value.oneCell']) (by simp [Value.cells]) rfl ?_)
            clear hF hS; intro a w hF hS
            replace hSS := hS.sub [4] (by decide) rfl (by simp)
            refine ⟨.inr hSS, ?_⟩
            refine ha_y 10 hF rfl rfl rfl (wn_none rfl) (.inr hSS) (yl_assign hF rfl rfl) ?_
            clear hF; intro a hF
            refine ha_done (by kernel_rfl) ?_ _
            refine then_n ?_
            refine c_seq ?_
            refine ha_startS hS [4, 3, 1] 32 (by kernel_rfl) ?_; clear hS; intro w hS
            have hSS := hS.sub [4, 3, 1] (by decide) rfl (by simp)
            refine ha_l 0 hF rfl rfl rfl (wn_none rfl) hSS (yl_loadK (rs := [_, _, _]) (fun _ h => h) hF rfl rfl 0 rfl ag24 sz24 rfl rfl) ?_
            clear hF; intro a hF
            refine ha_one 1 (by kernel_rfl) rfl (wn_none rfl) (wp_call (vs := [_]) hF rfl rfl rfl rfl cf18 (valid1 _ M295 (r296) (c297) _ (hS.rdRow 5 rfl) (by first | omega | (simp; done) | (simp; omega))) ?_)
            clear hF; rintro _ w ⟨rfl, hS1⟩ a hF
            replace hS := hS.callB hS1 rfl; clear hS1
            replace hSS := hS.sub [4, 3, 1] (by decide) rfl (by simp)
            refine ⟨.inr hSS, ?_⟩
            replace hF := fr_set (b' := true) hF (by rw [decide_eq_true_eq]; exact hv298)
            refine ha_y 2 hF rfl rfl rfl (wn_none rfl) (.inr hSS) (yl_move hF rfl rfl) ?_
            clear hF; intro a hF
            refine ha_l 3 hF rfl rfl rfl (wn_t hF rfl rfl rfl rfl) hSS (yl_loadK (rs := [_, _, _]) (fun _ h => h) hF rfl rfl 1 rfl ag24 sz24 rfl rfl) ?_
            clear hF; intro a hF
            refine ha_l 4 hF rfl rfl rfl (wn_t hF rfl rfl rfl rfl) hSS (yl_loadK (rs := [_, _, _]) (fun _ h => h) hF rfl rfl 2 rfl ag24 sz24 rfl rfl) ?_
            clear hF; intro a hF
            refine ha_one 5 (by kernel_rfl) rfl (wn_t hF rfl rfl rfl rfl) (wp_call (vs := [_, _]) hF rfl rfl rfl rfl cf20 (sameT _ _ L387 L387 (r296) (c297) (r296) (c297) _ (hS.rdRow 2 rfl) (hS.rdRow 0 rfl) (by first | omega | (simp; done) | (simp; omega)) (by first | omega | (simp; done) | (simp; omega))) ?_)
            clear hF; rintro _ w ⟨rfl, hS1⟩ a hF
            replace hS := hS.callB hS1 rfl; clear hS1
            replace hSS := hS.sub [4, 3, 1] (by decide) rfl (by simp)
            refine ⟨.inr hSS, ?_⟩
            replace hF := fr_set (b' := true) hF (by simp)
            refine ha_y 6 hF rfl rfl rfl (wn_none rfl) (.inr hSS) (yl_pick (u := _) (v := undef) hF rfl rfl (fun _ => rfl) (fun h => by cases h)) ?_
            clear hF; intro a hF
            refine ha_y 7 hF rfl rfl rfl (wn_none rfl) (.inr hSS) (yl_move hF rfl rfl) ?_
            clear hF; intro a hF
            refine ha_y 8 hF rfl rfl rfl (wn_t hF rfl rfl rfl rfl) (.inr hSS) (yl_move hF rfl rfl) ?_
            clear hF; intro a hF
            refine ha_y 9 hF rfl rfl rfl (wn_t hF rfl rfl rfl rfl) (.inr hSS) (yl_move hF rfl rfl) ?_
            clear hF; intro a hF
            refine ha_y 10 hF rfl rfl rfl (wn_t hF rfl rfl rfl rfl) (.inr hSS) (yl_bin hF rfl rfl rfl rfl (fun _ => run_eqb Try.underlying4)) ?_
            clear hF; intro a hF
            replace hF := fr_set (b' := true) hF (by simp)
            refine ha_y 11 hF rfl rfl rfl (wn_none rfl) (.inr hSS) (yl_pick (u := _) (v := undef) hF rfl rfl (fun _ => rfl) (fun h => by cases h)) ?_
            clear hF; intro a hF
            refine ha_y 12 hF rfl rfl rfl (wn_none rfl) (.inr hSS) (yl_move hF rfl rfl) ?_
            clear hF; intro a hF
            refine ha_y 14 hF rfl rfl rfl (wn_t hF rfl rfl rfl rfl) (.inr hSS) (yl_move hF rfl rfl) ?_
            clear hF; intro a hF
            refine ha_y 17 hF rfl rfl rfl (wn_t hF rfl rfl rfl rfl) (.inr hSS) (yl_move hF rfl rfl) ?_
            clear hF; intro a hF
            refine ha_l 13 hF rfl rfl rfl (wn_t hF rfl rfl rfl rfl) hSS (yl_loadK (rs := [_, _, _]) (fun _ h => h) hF rfl rfl 0 rfl ag24 sz24 rfl rfl) ?_
            clear hF; intro a hF
            refine ha_l 16 hF rfl rfl rfl (wn_t hF rfl rfl rfl rfl) hSS (yl_loadK (rs := [_, _, _]) (fun _ h => h) hF rfl rfl 0 rfl ag24 sz24 rfl rfl) ?_
            clear hF; intro a hF
            have hc405 := held_in M295 (r296) (c297) ((((rnd (t) (7 : Int))) - (1 : Int)))
            refine ha_one 15 (by kernel_rfl) rfl (wn_t hF rfl rfl rfl rfl) (wp_call (vs := [_, _]) hF rfl rfl rfl rfl cf11 (held1 _ M295 (r296) (c297) ((((rnd (t) (7 : Int))) - (1 : Int))) _ (hS.rdRow 5 rfl) (by first | omega | (simp; done) | (simp; omega))) ?_)
            clear hF; rintro _ w ⟨rfl, hS1⟩ a hF
            replace hS := hS.callB hS1 rfl; clear hS1
            replace hSS := hS.sub [4, 3, 1] (by decide) rfl (by simp)
            refine ⟨.inr hSS, ?_⟩
            have hc406 := held_in M295 (r296) (c297) ((((rnd (t) (7 : Int))) - (1 : Int)))
            refine ha_one 18 (by kernel_rfl) rfl (wn_t hF rfl rfl rfl rfl) (wp_call (vs := [_, _]) hF rfl rfl rfl rfl cf21 (held2 _ M295 (r296) (c297) ((((rnd (t) (7 : Int))) - (1 : Int))) _ (hS.rdRow 5 rfl) (by first | omega | (simp; done) | (simp; omega))) ?_)
            clear hF; rintro _ w ⟨rfl, hS1⟩ a hF
            replace hS := hS.callB hS1 rfl; clear hS1
            replace hSS := hS.sub [4, 3, 1] (by decide) rfl (by simp)
            refine ⟨.inr hSS, ?_⟩
            refine ha_y 19 hF rfl rfl rfl (wn_t hF rfl rfl rfl rfl) (.inr hSS) (yl_bin hF rfl rfl rfl rfl (fun _ => run_eql)) ?_
            clear hF; intro a hF
            replace hF := fr_set (b' := true) hF (by simp)
            refine ha_y 20 hF rfl rfl rfl (wn_none rfl) (.inr hSS) (yl_pick (u := _) (v := undef) hF rfl rfl (fun _ => rfl) (fun h => by cases h)) ?_
            clear hF; intro a hF
            refine ha_y 21 hF rfl rfl rfl (wn_none rfl) (.inr hSS) (yl_move hF rfl rfl) ?_
            clear hF; intro a hF
            refine ha_l 22 hF rfl rfl rfl (wn_t hF rfl rfl rfl rfl) hSS (yl_loadK (rs := [_, _, _]) (fun _ h => h) hF rfl rfl 0 rfl ag24 sz24 rfl rfl) ?_
            clear hF; intro a hF
            refine ha_l 24 hF rfl rfl rfl (wn_t hF rfl rfl rfl rfl) hSS (yl_loadK (rs := [_, _, _]) (fun _ h => h) hF rfl rfl 0 rfl ag24 sz24 rfl rfl) ?_
            clear hF; intro a hF
            have hc407 := count_in M295 (r296) (c297) (-1)
            refine ha_one 23 (by kernel_rfl) rfl (wn_t hF rfl rfl rfl rfl) (wp_call (vs := [_]) hF rfl rfl rfl rfl cf10 (free1 _ M295 (r296) (c297) _ (hS.rdRow 5 rfl) (by first | omega | (simp; done) | (simp; omega))) ?_)
            clear hF; rintro _ w ⟨rfl, hS1⟩ a hF
            replace hS := hS.callB hS1 rfl; clear hS1
            replace hSS := hS.sub [4, 3, 1] (by decide) rfl (by simp)
            refine ⟨.inr hSS, ?_⟩
            have hc408 := count_in M295 (r296) (c297) (-1)
            refine ha_one 25 (by kernel_rfl) rfl (wn_t hF rfl rfl rfl rfl) (wp_call (vs := [_]) hF rfl rfl rfl rfl cf22 (free2 _ M295 (r296) (c297) _ (hS.rdRow 5 rfl) (by first | omega | (simp; done) | (simp; omega))) ?_)
            clear hF; rintro _ w ⟨rfl, hS1⟩ a hF
            replace hS := hS.callB hS1 rfl; clear hS1
            replace hSS := hS.sub [4, 3, 1] (by decide) rfl (by simp)
            refine ⟨.inr hSS, ?_⟩
            refine ha_y 26 hF rfl rfl rfl (wn_t hF rfl rfl rfl rfl) (.inr hSS) (yl_bin hF rfl rfl rfl rfl (fun _ => run_eql)) ?_
            clear hF; intro a hF
            replace hF := fr_set (b' := true) hF (by simp)
            refine ha_y 27 hF rfl rfl rfl (wn_none rfl) (.inr hSS) (yl_pick (u := _) (v := undef) hF rfl rfl (fun _ => rfl) (fun h => by cases h)) ?_
            clear hF; intro a hF
            refine ha_y 28 hF rfl rfl rfl (wn_none rfl) (.inr hSS) (yl_move hF rfl rfl) ?_
            clear hF; intro a hF
            refine ha_one 29 (by kernel_rfl) rfl (wn_t hF rfl rfl rfl rfl) (wp_call (vs := []) hF rfl rfl rfl rfl cf12 (awake_any _) ?_)
            clear hF; rintro _ w ⟨rfl, hS1⟩ a hF
            replace hS := hS.callB hS1 rfl; clear hS1
            replace hSS := hS.sub [4, 3, 1] (by decide) rfl (by simp)
            refine ⟨.inr hSS, ?_⟩
            refine ha_y 30 hF rfl rfl rfl (wn_none rfl) (.inr hSS) (yl_pick (u := _) (v := undef) hF rfl rfl (fun _ => rfl) (fun h => by cases h)) ?_
            clear hF; intro a hF
            refine ha_y 31 hF rfl rfl rfl (wn_none rfl) (.inr hSS) (yl_assign hF rfl rfl) ?_
            clear hF; intro a hF
            refine ha_done (by kernel_rfl) ?_ _
            refine then_n ?_
            refine wp_ret ?_
            refine ret_t hF rfl rfl ?_
            exact ⟨_, rfl, rfl, (hS.sub [] (by decide) (by first | rfl | simp) (by simp))⟩
        · skip
          refine ha_op 8 rfl (wn_none rfl) (wp_alloc (cs := #[_, _, _]) hF hS rfl rfl rfl zr24 rfl ?_)
          clear hF hS; intro a w g409 hF hS
          replace hSS := hS.sub [3] (by decide) rfl (by simp)
          refine ⟨.inr hSS, ?_⟩
          have hr410 := rnd_bounds (k) (10 : Int) (by omega)
          refine ha_one 2 (by kernel_rfl) rfl (wn_none rfl) (wp_call (vs := [_, _]) hF rfl rfl rfl rfl cf8 (round_any (k) (10 : Int) _ (by omega)) ?_)
          clear hF; rintro _ w ⟨rfl, hS1⟩ a hF
          replace hS := hS.callB hS1 rfl; clear hS1
          replace hSS := hS.sub [3] (by decide) rfl (by simp)
          refine ⟨.inr hSS, ?_⟩
          refine ha_y 3 hF rfl rfl rfl (wn_none rfl) (.inr hSS) (yl_bin hF rfl rfl rfl rfl (fun _ => run_sub (by refine ⟨?_, ?_⟩ <;> omega))) ?_
          clear hF; intro a hF
          refine ha_one 4 (by kernel_rfl) rfl (wn_none rfl) (wp_call (vs := [_, _]) hF rfl rfl rfl rfl cf17 (put2 _ M295 (r296) (c297) ((((rnd (k) (10 : Int))) - (1 : Int))) _ (hS.rdRow 4 rfl) (by first | omega | (simp; done) | (simp; omega))) ?_)
          clear hF; rintro _ w ⟨v411, L412, b413, rfl, hp414, hS1⟩ a hF
          replace hS := hS.callB hS1 rfl; clear hS1
          obtain ⟨Av411, cv411, rfl⟩ := hS.form 0 rfl
          have hlhp414 := put_len hp414
          have hq := hp389.symm.trans hp414; injection hq with h1 h2; subst h1 h2
          replace hSS := hS.sub [4] (by decide) rfl (by simp)
          refine ⟨.inr hSS, ?_⟩
          refine ha_y 5 hF rfl rfl rfl (wn_none rfl) (.inr hSS) (yl_move hF rfl rfl) ?_
          clear hF; intro a hF
          refine ha_y 6 hF rfl rfl rfl (wn_none rfl) (.inr hSS) (yl_extract hF rfl rfl rfl) ?_
          clear hF; intro a hF
          refine ha_y 7 hF rfl rfl rfl (wn_none rfl) (.inr hSS) (yl_extract hF rfl rfl rfl) ?_
          clear hF; intro a hF
          refine ha_one 9 (by kernel_rfl) rfl (wn_none rfl) (wp_store (cs' := #[_, _, _]) hF hS rfl rfl rfl rfl 1 rfl sz24 (by simp [Value.cells, Value.oneCell']) (by simp [Value.cells]) rfl ?_)
          clear hF hS; intro a w hF hS
          replace hSS := hS.sub [4] (by decide) rfl (by simp)
          refine ⟨.inr hSS, ?_⟩
          refine ha_y 10 hF rfl rfl rfl (wn_none rfl) (.inr hSS) (yl_assign hF rfl rfl) ?_
          clear hF; intro a hF
          refine ha_done (by kernel_rfl) ?_ _
          refine then_n ?_
          refine c_seq ?_
          refine ha_startS hS [4, 3, 1] 32 (by kernel_rfl) ?_; clear hS; intro w hS
          have hSS := hS.sub [4, 3, 1] (by decide) rfl (by simp)
          refine ha_l 0 hF rfl rfl rfl (wn_none rfl) hSS (yl_loadK (rs := [_, _, _]) (fun _ h => h) hF rfl rfl 0 rfl ag24 sz24 rfl rfl) ?_
          clear hF; intro a hF
          refine ha_one 1 (by kernel_rfl) rfl (wn_none rfl) (wp_call (vs := [_]) hF rfl rfl rfl rfl cf18 (valid1 _ M295 (r296) (c297) _ (hS.rdRow 5 rfl) (by first | omega | (simp; done) | (simp; omega))) ?_)
          clear hF; rintro _ w ⟨rfl, hS1⟩ a hF
          replace hS := hS.callB hS1 rfl; clear hS1
          replace hSS := hS.sub [4, 3, 1] (by decide) rfl (by simp)
          refine ⟨.inr hSS, ?_⟩
          replace hF := fr_set (b' := true) hF (by rw [decide_eq_true_eq]; exact hv298)
          refine ha_y 2 hF rfl rfl rfl (wn_none rfl) (.inr hSS) (yl_move hF rfl rfl) ?_
          clear hF; intro a hF
          refine ha_l 3 hF rfl rfl rfl (wn_t hF rfl rfl rfl rfl) hSS (yl_loadK (rs := [_, _, _]) (fun _ h => h) hF rfl rfl 1 rfl ag24 sz24 rfl rfl) ?_
          clear hF; intro a hF
          refine ha_l 4 hF rfl rfl rfl (wn_t hF rfl rfl rfl rfl) hSS (yl_loadK (rs := [_, _, _]) (fun _ h => h) hF rfl rfl 2 rfl ag24 sz24 rfl rfl) ?_
          clear hF; intro a hF
          refine ha_one 5 (by kernel_rfl) rfl (wn_t hF rfl rfl rfl rfl) (wp_call (vs := [_, _]) hF rfl rfl rfl rfl cf20 (sameT _ _ L387 L387 (r296) (c297) (r296) (c297) _ (hS.rdRow 2 rfl) (hS.rdRow 0 rfl) (by first | omega | (simp; done) | (simp; omega)) (by first | omega | (simp; done) | (simp; omega))) ?_)
          clear hF; rintro _ w ⟨rfl, hS1⟩ a hF
          replace hS := hS.callB hS1 rfl; clear hS1
          replace hSS := hS.sub [4, 3, 1] (by decide) rfl (by simp)
          refine ⟨.inr hSS, ?_⟩
          replace hF := fr_set (b' := true) hF (by simp)
          refine ha_y 6 hF rfl rfl rfl (wn_none rfl) (.inr hSS) (yl_pick (u := _) (v := undef) hF rfl rfl (fun _ => rfl) (fun h => by cases h)) ?_
          clear hF; intro a hF
          refine ha_y 7 hF rfl rfl rfl (wn_none rfl) (.inr hSS) (yl_move hF rfl rfl) ?_
          clear hF; intro a hF
          refine ha_y 8 hF rfl rfl rfl (wn_t hF rfl rfl rfl rfl) (.inr hSS) (yl_move hF rfl rfl) ?_
          clear hF; intro a hF
          refine ha_y 9 hF rfl rfl rfl (wn_t hF rfl rfl rfl rfl) (.inr hSS) (yl_move hF rfl rfl) ?_
          clear hF; intro a hF
          refine ha_y 10 hF rfl rfl rfl (wn_t hF rfl rfl rfl rfl) (.inr hSS) (yl_bin hF rfl rfl rfl rfl (fun _ => run_eqb Try.underlying4)) ?_
          clear hF; intro a hF
          replace hF := fr_set (b' := true) hF (by simp)
          refine ha_y 11 hF rfl rfl rfl (wn_none rfl) (.inr hSS) (yl_pick (u := _) (v := undef) hF rfl rfl (fun _ => rfl) (fun h => by cases h)) ?_
          clear hF; intro a hF
          refine ha_y 12 hF rfl rfl rfl (wn_none rfl) (.inr hSS) (yl_move hF rfl rfl) ?_
          clear hF; intro a hF
          refine ha_y 14 hF rfl rfl rfl (wn_t hF rfl rfl rfl rfl) (.inr hSS) (yl_move hF rfl rfl) ?_
          clear hF; intro a hF
          refine ha_y 17 hF rfl rfl rfl (wn_t hF rfl rfl rfl rfl) (.inr hSS) (yl_move hF rfl rfl) ?_
          clear hF; intro a hF
          refine ha_l 13 hF rfl rfl rfl (wn_t hF rfl rfl rfl rfl) hSS (yl_loadK (rs := [_, _, _]) (fun _ h => h) hF rfl rfl 0 rfl ag24 sz24 rfl rfl) ?_
          clear hF; intro a hF
          refine ha_l 16 hF rfl rfl rfl (wn_t hF rfl rfl rfl rfl) hSS (yl_loadK (rs := [_, _, _]) (fun _ h => h) hF rfl rfl 0 rfl ag24 sz24 rfl rfl) ?_
          clear hF; intro a hF
          have hc415 := held_in M295 (r296) (c297) ((((rnd (t) (7 : Int))) - (1 : Int)))
          refine ha_one 15 (by kernel_rfl) rfl (wn_t hF rfl rfl rfl rfl) (wp_call (vs := [_, _]) hF rfl rfl rfl rfl cf11 (held1 _ M295 (r296) (c297) ((((rnd (t) (7 : Int))) - (1 : Int))) _ (hS.rdRow 5 rfl) (by first | omega | (simp; done) | (simp; omega))) ?_)
          clear hF; rintro _ w ⟨rfl, hS1⟩ a hF
          replace hS := hS.callB hS1 rfl; clear hS1
          replace hSS := hS.sub [4, 3, 1] (by decide) rfl (by simp)
          refine ⟨.inr hSS, ?_⟩
          have hc416 := held_in M295 (r296) (c297) ((((rnd (t) (7 : Int))) - (1 : Int)))
          refine ha_one 18 (by kernel_rfl) rfl (wn_t hF rfl rfl rfl rfl) (wp_call (vs := [_, _]) hF rfl rfl rfl rfl cf21 (held2 _ M295 (r296) (c297) ((((rnd (t) (7 : Int))) - (1 : Int))) _ (hS.rdRow 5 rfl) (by first | omega | (simp; done) | (simp; omega))) ?_)
          clear hF; rintro _ w ⟨rfl, hS1⟩ a hF
          replace hS := hS.callB hS1 rfl; clear hS1
          replace hSS := hS.sub [4, 3, 1] (by decide) rfl (by simp)
          refine ⟨.inr hSS, ?_⟩
          refine ha_y 19 hF rfl rfl rfl (wn_t hF rfl rfl rfl rfl) (.inr hSS) (yl_bin hF rfl rfl rfl rfl (fun _ => run_eql)) ?_
          clear hF; intro a hF
          replace hF := fr_set (b' := true) hF (by simp)
          refine ha_y 20 hF rfl rfl rfl (wn_none rfl) (.inr hSS) (yl_pick (u := _) (v := undef) hF rfl rfl (fun _ => rfl) (fun h => by cases h)) ?_
          clear hF; intro a hF
          refine ha_y 21 hF rfl rfl rfl (wn_none rfl) (.inr hSS) (yl_move hF rfl rfl) ?_
          clear hF; intro a hF
          refine ha_l 22 hF rfl rfl rfl (wn_t hF rfl rfl rfl rfl) hSS (yl_loadK (rs := [_, _, _]) (fun _ h => h) hF rfl rfl 0 rfl ag24 sz24 rfl rfl) ?_
          clear hF; intro a hF
          refine ha_l 24 hF rfl rfl rfl (wn_t hF rfl rfl rfl rfl) hSS (yl_loadK (rs := [_, _, _]) (fun _ h => h) hF rfl rfl 0 rfl ag24 sz24 rfl rfl) ?_
          clear hF; intro a hF
          have hc417 := count_in M295 (r296) (c297) (-1)
          refine ha_one 23 (by kernel_rfl) rfl (wn_t hF rfl rfl rfl rfl) (wp_call (vs := [_]) hF rfl rfl rfl rfl cf10 (free1 _ M295 (r296) (c297) _ (hS.rdRow 5 rfl) (by first | omega | (simp; done) | (simp; omega))) ?_)
          clear hF; rintro _ w ⟨rfl, hS1⟩ a hF
          replace hS := hS.callB hS1 rfl; clear hS1
          replace hSS := hS.sub [4, 3, 1] (by decide) rfl (by simp)
          refine ⟨.inr hSS, ?_⟩
          have hc418 := count_in M295 (r296) (c297) (-1)
          refine ha_one 25 (by kernel_rfl) rfl (wn_t hF rfl rfl rfl rfl) (wp_call (vs := [_]) hF rfl rfl rfl rfl cf22 (free2 _ M295 (r296) (c297) _ (hS.rdRow 5 rfl) (by first | omega | (simp; done) | (simp; omega))) ?_)
          clear hF; rintro _ w ⟨rfl, hS1⟩ a hF
          replace hS := hS.callB hS1 rfl; clear hS1
          replace hSS := hS.sub [4, 3, 1] (by decide) rfl (by simp)
          refine ⟨.inr hSS, ?_⟩
          refine ha_y 26 hF rfl rfl rfl (wn_t hF rfl rfl rfl rfl) (.inr hSS) (yl_bin hF rfl rfl rfl rfl (fun _ => run_eql)) ?_
          clear hF; intro a hF
          replace hF := fr_set (b' := true) hF (by simp)
          refine ha_y 27 hF rfl rfl rfl (wn_none rfl) (.inr hSS) (yl_pick (u := _) (v := undef) hF rfl rfl (fun _ => rfl) (fun h => by cases h)) ?_
          clear hF; intro a hF
          refine ha_y 28 hF rfl rfl rfl (wn_none rfl) (.inr hSS) (yl_move hF rfl rfl) ?_
          clear hF; intro a hF
          refine ha_one 29 (by kernel_rfl) rfl (wn_t hF rfl rfl rfl rfl) (wp_call (vs := []) hF rfl rfl rfl rfl cf12 (awake_any _) ?_)
          clear hF; rintro _ w ⟨rfl, hS1⟩ a hF
          replace hS := hS.callB hS1 rfl; clear hS1
          replace hSS := hS.sub [4, 3, 1] (by decide) rfl (by simp)
          refine ⟨.inr hSS, ?_⟩
          refine ha_y 30 hF rfl rfl rfl (wn_none rfl) (.inr hSS) (yl_pick (u := _) (v := undef) hF rfl rfl (fun _ => rfl) (fun h => by cases h)) ?_
          clear hF; intro a hF
          refine ha_y 31 hF rfl rfl rfl (wn_none rfl) (.inr hSS) (yl_assign hF rfl rfl) ?_
          clear hF; intro a hF
          refine ha_done (by kernel_rfl) ?_ _
          refine then_n ?_
          refine wp_ret ?_
          refine ret_t hF rfl rfl ?_
          exact ⟨_, rfl, rfl, (hS.sub [] (by decide) (by first | rfl | simp) (by simp))⟩

end Go.Proofs.Ytaakkkknnihfmaa

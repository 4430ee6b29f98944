/- walks, printed by wip/gen -/
import Derived.Test.YtlhcpeolkkadbaaWm
namespace Go.Proofs.Ytlhcpeolkkadbaa
open Go.RowKit
set_option linter.unusedVariables false
set_option linter.unusedSimpArgs false

set_option maxHeartbeats 1000000 in
set_option maxRecDepth 100000 in
theorem small_any (av : Value) (A : List Int) (bv : Value) (B : List Int) (gv : Value) (G : List Int) (n1 n2 : Int) (w0 : World) (hav : Rd w0 1 av (A).length (cells encI (A))) (hal : A.length ≤ 9223372036854775807) (hbv : Rd w0 1 bv (B).length (cells encI (B))) (hbl : B.length ≤ 9223372036854775807) (hgv : Rd w0 1 gv (G).length (cells encI (G))) (hgl : G.length ≤ 9223372036854775807) :
    Fn Try.prog 4 #[av, bv, gv, .int .i64 n1, .int .i64 n2] w0 (fun v w' => v = .bool true ∧ Sat w0 w' []) := by
  obtain ⟨Aav, cav, rfl⟩ := Rd.form hav
  obtain ⟨Abv, cbv, rfl⟩ := Rd.form hbv
  obtain ⟨Agv, cgv, rfl⟩ := Rd.form hgv
  refine c_enter (N := 76) (l := [_, _, _, _, _]) Try.func4 rfl rfl (fun a w hF hS => ?_)
  replace hS := hS.addRo hgv
  replace hS := hS.addRo hbv
  replace hS := hS.addRo hav
  refine c_seq ?_
  refine c_region ?_
  refine seq_yl hF (wn_none rfl) rfl rfl (yl_assign hF rfl rfl) ?_
  clear hF; intro a hF
  refine wpList_nil ?_
  refine then_n ?_
  refine c_seq ?_
  refine c_region ?_
  refine seq_yl hF (wn_none rfl) rfl rfl (yl_move hF rfl rfl) ?_
  clear hF; intro a hF
  refine seq_wp (wn_none rfl) (wp_call (vs := [_]) hF rfl rfl rfl rfl cf20 (drive_any _ A _ (hS.rdRo 0 rfl) (by first | omega | (simp; done) | (simp; omega))) ?_)
  clear hF; rintro _ w ⟨st469, v470, Lq471, rm472, rfl, hd473, hS1⟩ a hF
  replace hS := hS.callB hS1 rfl; clear hS1
  obtain ⟨Av470, cv470, rfl⟩ := hS.form 0 rfl
  obtain ⟨hd473d, hd473s⟩ := hd473; have hd473i := okD_I hd473d
  refine seq_wp (wn_none rfl) (wp_alloc (cs := #[_, _, _]) hF hS rfl rfl rfl zr24 rfl ?_)
  clear hF hS; intro a w g474 hF hS
  refine seq_wp (wn_none rfl) (wp_store (cs' := #[_, _, _]) hF hS rfl rfl rfl rfl 0 rfl sz24 (by simp [Value.cells, Value.oneCell']) (by simp [Value.cells]) rfl ?_)
  clear hF hS; intro a w hF hS
  refine wpList_nil ?_
  refine then_n ?_
  refine c_seq ?_
  refine c_region ?_
  refine seq_yl hF (wn_none rfl) rfl rfl (yl_loadK (rs := [_, _, _]) (fun _ h => h ▸ hS) hF rfl rfl 0 rfl ag24 sz24 rfl rfl) ?_
  clear hF; intro a hF
  refine seq_yl hF (wn_none rfl) rfl rfl (yl_move hF rfl rfl) ?_
  clear hF; intro a hF
  refine seq_wp (wn_none rfl) (wp_call (vs := [_, _]) hF rfl rfl rfl rfl cf21 (flying_any st469 _ (rm472) _ B _ (hS.rdRo 3 rfl) (by first | omega | (simp; done) | (simp; omega)) (by unfold okI; omega) (by omega)) ?_)
  clear hF; rintro _ w ⟨v475, Fq476, rfl, hfy477, hS1⟩ a hF
  replace hS := hS.callB hS1 rfl; clear hS1
  obtain ⟨Av475, cv475, rfl⟩ := hS.form 0 rfl
  have hfy477l := hfy477.1
  refine seq_yl hF (wn_none rfl) rfl rfl (yl_assign hF rfl rfl) ?_
  clear hF; intro a hF
  refine wpList_nil ?_
  refine then_n ?_
  refine c_seq ?_
  refine c_region ?_
  refine seq_yl hF (wn_none rfl) rfl rfl (yl_move hF rfl rfl) ?_
  clear hF; intro a hF
  refine seq_wp (wn_none rfl) (wp_call (vs := [_]) hF rfl rfl rfl rfl cf22 (choice_any _ G _ (hS.rdRo 5 rfl) (by first | omega | (simp; done) | (simp; omega))) ?_)
  clear hF; rintro _ w ⟨v478, Pq479, v480, Tq481, rfl, hch482, hS1⟩ a hF
  replace hS := hS.callB hS1 rfl; clear hS1
  obtain ⟨Av478, cv478, rfl⟩ := hS.form 0 rfl
  obtain ⟨Av480, cv480, rfl⟩ := hS.form 1 rfl
  refine seq_wp (wn_none rfl) (wp_alloc (cs := #[_, _]) hF hS rfl rfl rfl zr28 rfl ?_)
  clear hF hS; intro a w g483 hF hS
  refine seq_wp (wn_none rfl) (wp_store (cs' := #[_, _]) hF hS rfl rfl rfl rfl 0 rfl sz28 (by simp [Value.cells, Value.oneCell']) (by simp [Value.cells]) rfl ?_)
  clear hF hS; intro a w hF hS
  refine wpList_nil ?_
  refine then_n ?_
  refine c_seq ?_
  refine c_region ?_
  refine seq_yl hF (wn_none rfl) rfl rfl (yl_loadK (rs := [_, _, _]) (fun _ h => h ▸ hS) hF rfl rfl 4 rfl ag24 sz24 rfl rfl) ?_
  clear hF; intro a hF
  refine seq_yl hF (wn_none rfl) rfl rfl (yl_move hF rfl rfl) ?_
  clear hF; intro a hF
  refine seq_yl hF (wn_none rfl) rfl rfl (yl_loadK (rs := [_, _]) (fun _ h => h ▸ hS) hF rfl rfl 0 rfl ag28 sz28 rfl rfl) ?_
  clear hF; intro a hF
  refine seq_wp (wn_none rfl) (wp_call (vs := [_, _, _]) hF rfl rfl rfl rfl cf16 (choose2_any st469 _ Lq471 (rm472) _ Fq476 _ Pq479 _ Tq481 _ (hS.rdRow 5 rfl) (by first | omega | (simp; done)) (by first | omega | (simp; done)) (hS.rdRow 3 rfl) (by first | omega | (simp; done)) (hS.rdRow 1 rfl) (hS.rdRow 2 rfl) (by first | omega | (simp; done)) (by first | omega | (simp; done))) ?_)
  clear hF; rintro _ w ⟨rfl, hS1⟩ a hF
  replace hS := hS.callB hS1 rfl; clear hS1
  have hz484 := choose_bd st469 Lq471 Fq476 (rm472) Pq479 Tq481
  refine seq_yl hF (wn_none rfl) rfl rfl (yl_assign hF rfl rfl) ?_
  clear hF; intro a hF
  refine wpList_nil ?_
  refine then_n ?_
  refine c_seq ?_
  refine c_seq ?_
  refine c_region ?_
  refine seq_yl hF (wn_none rfl) rfl rfl (yl_move hF rfl rfl) ?_
  clear hF; intro a hF
  refine seq_yl hF (wn_none rfl) rfl rfl (yl_move hF rfl rfl) ?_
  clear hF; intro a hF
  have hr485 := rnd_bounds (n1) (8 : Int) (by omega)
  refine seq_wp (wn_none rfl) (wp_call (vs := [_, _]) hF rfl rfl rfl rfl cf24 (round_any (n1) (8 : Int) _ (by omega)) ?_)
  clear hF; rintro _ w ⟨rfl, hS1⟩ a hF
  replace hS := hS.callB hS1 rfl; clear hS1
  refine seq_yl hF (wn_none rfl) rfl rfl (yl_move hF rfl rfl) ?_
  clear hF; intro a hF
  refine seq_wp (wn_none rfl) (wp_call (vs := [_, _]) hF rfl rfl rfl rfl cf25 (data_any (n2) (1 : Int) _ (by omega)) ?_)
  clear hF; rintro _ w ⟨rfl, hS1⟩ a hF
  replace hS := hS.callB hS1 rfl; clear hS1
  have hz486 := dataF_size (n2) (1 : Int)
  refine seq_wp (wn_none rfl) (wp_call (vs := [_, _, _]) hF rfl rfl rfl rfl cf23 (imWrite2_any (chooseF st469 Lq471 Fq476 (rm472) Pq479 Tq481) ((rnd (n1) (8 : Int))) (dataF (n2) (1 : Int)) _ (by omega) (by omega)) ?_)
  clear hF; rintro _ w ⟨xs487, e488, rfl, hsp489, hS1⟩ a hF
  replace hS := hS.callB hS1 rfl; clear hS1
  have hsp489z := fun h9 : okW (((chooseF st469 Lq471 Fq476 (rm472) Pq479 Tq481)).size : Int) ((rnd (n1) (8 : Int))) (((dataF (n2) (1 : Int))).size : Int) => wim_size (im := (chooseF st469 Lq471 Fq476 (rm472) Pq479 Tq481)) (s := ((rnd (n1) (8 : Int)))) (x := (dataF (n2) (1 : Int))) h9
  rcases hsp489 with ⟨hk490, rfl, rfl⟩ | ⟨hk490, rfl, rfl⟩ <;> (try (have hk490x := hk490; simp only [okS, okI, okW, okP] at hk490x))
  · skip
    refine seq_yl hF (wn_none rfl) rfl rfl (yl_move hF rfl rfl) ?_
    clear hF; intro a hF
    refine seq_yl hF (wn_none rfl) rfl rfl (yl_extract hF rfl rfl rfl) ?_
    clear hF; intro a hF
    refine seq_yl hF (wn_none rfl) rfl rfl (yl_extract hF rfl rfl rfl) ?_
    clear hF; intro a hF
    refine seq_yl hF (wn_none rfl) rfl rfl (yl_assign hF rfl rfl) ?_
    clear hF; intro a hF
    refine seq_yl hF (wn_none rfl) rfl rfl (yl_assign hF rfl rfl) ?_
    clear hF; intro a hF
    refine wpList_nil ?_
    refine then_n ?_
    refine c_seq ?_
    refine c_region ?_
    try (have hwz9 := hsp489z hk490)
    refine seq_yl hF (wn_none rfl) rfl rfl (yl_move hF rfl rfl) ?_
    clear hF; intro a hF
    refine seq_yl hF (wn_none rfl) rfl rfl (yl_move hF rfl rfl) ?_
    clear hF; intro a hF
    refine seq_yl hF (wn_t hF rfl rfl rfl rfl) rfl rfl (yl_move hF rfl rfl) ?_
    clear hF; intro a hF
    have hr491 := rnd_bounds (n2) (3 : Int) (by omega)
    refine seq_wp (wn_t hF rfl rfl rfl rfl) (wp_call (vs := [_, _]) hF rfl rfl rfl rfl cf24 (round_any (n2) (3 : Int) _ (by omega)) ?_)
    clear hF; rintro _ w ⟨rfl, hS1⟩ a hF
    replace hS := hS.callB hS1 rfl; clear hS1
    refine seq_yl hF (wn_t hF rfl rfl rfl rfl) rfl rfl (yl_bin hF rfl rfl rfl rfl (fun _ => run_eql)) ?_
    clear hF; intro a hF
    refine seq_yl hF (wn_none rfl) rfl rfl (yl_pick (u := _) (v := undef) hF rfl rfl (fun _ => rfl) (fun h => by cases h)) ?_
    clear hF; intro a hF
    refine wpList_nil ?_
    refine then_n ?_
    refine c_cond hF rfl (fun hc492 => ?_) (fun hc492 => ?_)
    · first | (replace hc492 := of_decide_eq_true hc492) | (replace hc492 := of_decide_eq_false (bnot_t hc492)) | (replace hc492 := bnot_t hc492) | skip
      try (have hc492x := hc492; simp only [okS, okI, okW, okP] at hc492x)
      refine c_region ?_
      refine seq_yl hF (wn_none rfl) rfl rfl (yl_move hF rfl rfl) ?_
      clear hF; intro a hF
      refine seq_yl hF (wn_none rfl) rfl rfl (yl_assign hF rfl rfl) ?_
      clear hF; intro a hF
      refine wpList_nil ?_
      refine then_n ?_
      refine c_seq ?_
      refine ha_startS hS [4, 0] 33 (by kernel_rfl) ?_; clear hS; intro w hS
      have hSS := hS.sub [4, 0] (by decide) rfl (by simp)
      refine ha_y 1 hF rfl rfl rfl (wn_none rfl) (.inr hSS) (yl_move hF rfl rfl) ?_
      clear hF; intro a hF
      refine ha_y 4 hF rfl rfl rfl (wn_none rfl) (.inr hSS) (yl_move hF rfl rfl) ?_
      clear hF; intro a hF
      refine ha_l 0 hF rfl rfl rfl (wn_none rfl) hSS (yl_loadK (rs := [_, _, _]) (fun _ h => h) hF rfl rfl 0 rfl ag24 sz24 rfl rfl) ?_
      clear hF; intro a hF
      refine ha_l 3 hF rfl rfl rfl (wn_none rfl) hSS (yl_loadK (rs := [_, _, _]) (fun _ h => h) hF rfl rfl 0 rfl ag24 sz24 rfl rfl) ?_
      clear hF; intro a hF
      refine ha_one 2 (by kernel_rfl) rfl (wn_none rfl) (wp_call (vs := [_, _]) hF rfl rfl rfl rfl cf13 (csecF_any st469 _ Lq471 (rm472) _ Fq476 _ (hS.rdRow 5 rfl) (by first | omega | (simp; done)) (by first | omega | (simp; done)) (hS.rdRow 3 rfl) (by first | omega | (simp; done))) ?_)
      clear hF; rintro _ w ⟨v493, M494, rfl, hM495, hS1⟩ a hF
      replace hS := hS.callB hS1 rfl; clear hS1
      obtain ⟨Av493, cv493, rfl⟩ := hS.form 0 rfl
      have hM495l := secF_len st469 Lq471 Fq476 (rm472); rw [← hM495] at hM495l
      replace hSS := hS.sub [5, 1] (by decide) rfl (by simp)
      refine ⟨.inr hSS, ?_⟩
      refine ha_one 5 (by kernel_rfl) rfl (wn_none rfl) (wp_call (vs := [_, _]) hF rfl rfl rfl rfl cf14 (csecF2_any st469 _ Lq471 (rm472) _ Fq476 _ (hS.rdRow 6 rfl) (by first | omega | (simp; done)) (by first | omega | (simp; done)) (hS.rdRow 4 rfl) (by first | omega | (simp; done))) ?_)
      clear hF; rintro _ w ⟨v496, M497, rfl, hM498, hS1⟩ a hF
      replace hS := hS.callB hS1 rfl; clear hS1
      obtain ⟨Av496, cv496, rfl⟩ := hS.form 0 rfl
      have hM498l := secF_len st469 Lq471 Fq476 (rm472); rw [← hM498] at hM498l
      replace hSS := hS.sub [6, 2] (by decide) rfl (by simp)
      refine ⟨.inr hSS, ?_⟩
      refine ha_one 6 (by kernel_rfl) rfl (wn_none rfl) (wp_call (vs := [_, _]) hF rfl rfl rfl rfl cf12 (sameI_any _ _ M494 M497 _ (hS.rdRow 1 rfl) (hS.rdRow 0 rfl) (by first | omega | (simp; done) | (simp; omega))) ?_)
      clear hF; rintro _ w ⟨rfl, hS1⟩ a hF
      replace hS := hS.callB hS1 rfl; clear hS1
      replace hSS := hS.sub [6, 2] (by decide) rfl (by simp)
      refine ⟨.inr hSS, ?_⟩
      replace hF := fr_set (b' := true) hF (by rw [hM495, hM498]; simp)
      refine ha_y 7 hF rfl rfl rfl (wn_none rfl) (.inr hSS) (yl_move hF rfl rfl) ?_
      clear hF; intro a hF
      refine ha_y 9 hF rfl rfl rfl (wn_t hF rfl rfl rfl rfl) (.inr hSS) (yl_move hF rfl rfl) ?_
      clear hF; intro a hF
      refine ha_y 13 hF rfl rfl rfl (wn_t hF rfl rfl rfl rfl) (.inr hSS) (yl_move hF rfl rfl) ?_
      clear hF; intro a hF
      refine ha_l 8 hF rfl rfl rfl (wn_t hF rfl rfl rfl rfl) hSS (yl_loadK (rs := [_, _, _]) (fun _ h => h) hF rfl rfl 0 rfl ag24 sz24 rfl rfl) ?_
      clear hF; intro a hF
      refine ha_l 10 hF rfl rfl rfl (wn_t hF rfl rfl rfl rfl) hSS (yl_loadK (rs := [_, _]) (fun _ h => h) hF rfl rfl 1 rfl ag28 sz28 rfl rfl) ?_
      clear hF; intro a hF
      refine ha_l 12 hF rfl rfl rfl (wn_t hF rfl rfl rfl rfl) hSS (yl_loadK (rs := [_, _, _]) (fun _ h => h) hF rfl rfl 0 rfl ag24 sz24 rfl rfl) ?_
      clear hF; intro a hF
      refine ha_l 14 hF rfl rfl rfl (wn_t hF rfl rfl rfl rfl) hSS (yl_loadK (rs := [_, _]) (fun _ h => h) hF rfl rfl 1 rfl ag28 sz28 rfl rfl) ?_
      clear hF; intro a hF
      refine ha_one 11 (by kernel_rfl) rfl (wn_t hF rfl rfl rfl rfl) (wp_call (vs := [_, _, _]) hF rfl rfl rfl rfl cf15 (choose_any st469 _ Lq471 (rm472) _ Fq476 _ Pq479 _ Tq481 _ (hS.rdRow 7 rfl) (by first | omega | (simp; done)) (by first | omega | (simp; done)) (hS.rdRow 5 rfl) (by first | omega | (simp; done)) (hS.rdRow 3 rfl) (hS.rdRow 4 rfl) (by first | omega | (simp; done)) (by first | omega | (simp; done))) ?_)
      clear hF; rintro _ w ⟨rfl, hS1⟩ a hF
      replace hS := hS.callB hS1 rfl; clear hS1
      have hz499 := choose_bd st469 Lq471 Fq476 (rm472) Pq479 Tq481
      replace hSS := hS.sub [6, 2] (by decide) rfl (by simp)
      refine ⟨.inr hSS, ?_⟩
      refine ha_one 15 (by kernel_rfl) rfl (wn_t hF rfl rfl rfl rfl) (wp_call (vs := [_, _, _]) hF rfl rfl rfl rfl cf16 (choose2_any st469 _ Lq471 (rm472) _ Fq476 _ Pq479 _ Tq481 _ (hS.rdRow 7 rfl) (by first | omega | (simp; done)) (by first | omega | (simp; done)) (hS.rdRow 5 rfl) (by first | omega | (simp; done)) (hS.rdRow 3 rfl) (hS.rdRow 4 rfl) (by first | omega | (simp; done)) (by first | omega | (simp; done))) ?_)
      clear hF; rintro _ w ⟨rfl, hS1⟩ a hF
      replace hS := hS.callB hS1 rfl; clear hS1
      have hz500 := choose_bd st469 Lq471 Fq476 (rm472) Pq479 Tq481
      replace hSS := hS.sub [6, 2] (by decide) rfl (by simp)
      refine ⟨.inr hSS, ?_⟩
      refine ha_y 16 hF rfl rfl rfl (wn_t hF rfl rfl rfl rfl) (.inr hSS) (yl_bin hF rfl rfl rfl rfl (fun _ => run_str_eql)) ?_
      clear hF; intro a hF
      replace hF := fr_set (b' := true) hF (by simp)
      refine ha_y 17 hF rfl rfl rfl (wn_none rfl) (.inr hSS) (yl_pick (u := _) (v := undef) hF rfl rfl (fun _ => rfl) (fun h => by cases h)) ?_
      clear hF; intro a hF
      refine ha_y 18 hF rfl rfl rfl (wn_none rfl) (.inr hSS) (yl_move hF rfl rfl) ?_
      clear hF; intro a hF
      refine ha_y 20 hF rfl rfl rfl (wn_t hF rfl rfl rfl rfl) (.inr hSS) (yl_move hF rfl rfl) ?_
      clear hF; intro a hF
      refine ha_y 21 hF rfl rfl rfl (wn_t hF rfl rfl rfl rfl) (.inr hSS) (yl_move hF rfl rfl) ?_
      clear hF; intro a hF
      refine ha_y 24 hF rfl rfl rfl (wn_t hF rfl rfl rfl rfl) (.inr hSS) (yl_move hF rfl rfl) ?_
      clear hF; intro a hF
      refine ha_y 25 hF rfl rfl rfl (wn_t hF rfl rfl rfl rfl) (.inr hSS) (yl_move hF rfl rfl) ?_
      clear hF; intro a hF
      refine ha_l 19 hF rfl rfl rfl (wn_t hF rfl rfl rfl rfl) hSS (yl_loadK (rs := [_, _, _]) (fun _ h => h) hF rfl rfl 0 rfl ag24 sz24 rfl rfl) ?_
      clear hF; intro a hF
      refine ha_l 23 hF rfl rfl rfl (wn_t hF rfl rfl rfl rfl) hSS (yl_loadK (rs := [_, _, _]) (fun _ h => h) hF rfl rfl 0 rfl ag24 sz24 rfl rfl) ?_
      clear hF; intro a hF
      refine ha_one 22 (by kernel_rfl) rfl (wn_t hF rfl rfl rfl rfl) (wp_call (vs := [_, _, _]) hF rfl rfl rfl rfl cf17 (perm_any st469 _ Lq471 (rm472) _ Fq476 (wim (chooseF st469 Lq471 Fq476 (rm472) Pq479 Tq481) ((rnd (n1) (8 : Int))) (dataF (n2) (1 : Int))) _ (hS.rdRow 7 rfl) (by first | omega | (simp; done)) (by first | omega | (simp; done)) (hS.rdRow 5 rfl) (by first | omega | (simp; done)) (by first | omega | (simp; done))) ?_)
      clear hF; rintro _ w ⟨bq501, rfl, hpm502, hS1⟩ a hF
      replace hS := hS.callB hS1 rfl; clear hS1
      replace hSS := hS.sub [6, 2] (by decide) rfl (by simp)
      refine ⟨.inr hSS, ?_⟩
      refine ha_one 26 (by kernel_rfl) rfl (wn_t hF rfl rfl rfl rfl) (wp_call (vs := [_, _, _]) hF rfl rfl rfl rfl cf18 (perm2_any st469 _ Lq471 (rm472) _ Fq476 (wim (chooseF st469 Lq471 Fq476 (rm472) Pq479 Tq481) ((rnd (n1) (8 : Int))) (dataF (n2) (1 : Int))) _ (hS.rdRow 7 rfl) (by first | omega | (simp; done)) (by first | omega | (simp; done)) (hS.rdRow 5 rfl) (by first | omega | (simp; done)) (by first | omega | (simp; done))) ?_)
      clear hF; rintro _ w ⟨bq503, rfl, hpm504, hS1⟩ a hF
      replace hS := hS.callB hS1 rfl; clear hS1
      replace hSS := hS.sub [6, 2] (by decide) rfl (by simp)
      refine ⟨.inr hSS, ?_⟩
      refine ha_y 27 hF rfl rfl rfl (wn_t hF rfl rfl rfl rfl) (.inr hSS) (yl_bin hF rfl rfl rfl rfl (fun _ => run_eqb Try.underlying4)) ?_
      clear hF; intro a hF
      replace hF := fr_set (b' := true) hF (by have h9 := Bool.eq_iff_iff.2 (hpm502.trans hpm504.symm); subst h9; simp)
      refine ha_y 28 hF rfl rfl rfl (wn_none rfl) (.inr hSS) (yl_pick (u := _) (v := undef) hF rfl rfl (fun _ => rfl) (fun h => by cases h)) ?_
      clear hF; intro a hF
      refine ha_y 29 hF rfl rfl rfl (wn_none rfl) (.inr hSS) (yl_move hF rfl rfl) ?_
      clear hF; intro a hF
      refine ha_one 30 (by kernel_rfl) rfl (wn_t hF rfl rfl rfl rfl) (wp_call (vs := []) hF rfl rfl rfl rfl cf19 (awake_any _) ?_)
      clear hF; rintro _ w ⟨rfl, hS1⟩ a hF
      replace hS := hS.callB hS1 rfl; clear hS1
      replace hSS := hS.sub [6, 2] (by decide) rfl (by simp)
      refine ⟨.inr hSS, ?_⟩
      refine ha_y 31 hF rfl rfl rfl (wn_none rfl) (.inr hSS) (yl_pick (u := _) (v := undef) hF rfl rfl (fun _ => rfl) (fun h => by cases h)) ?_
      clear hF; intro a hF
      refine ha_y 32 hF rfl rfl rfl (wn_none rfl) (.inr hSS) (yl_assign hF rfl rfl) ?_
      clear hF; intro a hF
      refine ha_done (by kernel_rfl) ?_ _
      refine then_n ?_
      refine wp_ret ?_
      refine ret_t hF rfl rfl ?_
      exact ⟨_, rfl, rfl, (hS.sub [] (by decide) (by first | rfl | simp) (by simp))⟩
    · first | (replace hc492 := of_decide_eq_false hc492) | (replace hc492 := of_decide_eq_true (bnot_f hc492)) | (replace hc492 := bnot_f hc492) | skip
      try (have hc492x := hc492; simp only [okS, okI, okW, okP] at hc492x)
      refine wp_skip ?_
      refine then_n ?_
      refine c_seq ?_
      refine ha_startS hS [4, 0] 33 (by kernel_rfl) ?_; clear hS; intro w hS
      have hSS := hS.sub [4, 0] (by decide) rfl (by simp)
      refine ha_y 1 hF rfl rfl rfl (wn_none rfl) (.inr hSS) (yl_move hF rfl rfl) ?_
      clear hF; intro a hF
      refine ha_y 4 hF rfl rfl rfl (wn_none rfl) (.inr hSS) (yl_move hF rfl rfl) ?_
      clear hF; intro a hF
      refine ha_l 0 hF rfl rfl rfl (wn_none rfl) hSS (yl_loadK (rs := [_, _, _]) (fun _ h => h) hF rfl rfl 0 rfl ag24 sz24 rfl rfl) ?_
      clear hF; intro a hF
      refine ha_l 3 hF rfl rfl rfl (wn_none rfl) hSS (yl_loadK (rs := [_, _, _]) (fun _ h => h) hF rfl rfl 0 rfl ag24 sz24 rfl rfl) ?_
      clear hF; intro a hF
      refine ha_one 2 (by kernel_rfl) rfl (wn_none rfl) (wp_call (vs := [_, _]) hF rfl rfl rfl rfl cf13 (csecF_any st469 _ Lq471 (rm472) _ Fq476 _ (hS.rdRow 5 rfl) (by first | omega | (simp; done)) (by first | omega | (simp; done)) (hS.rdRow 3 rfl) (by first | omega | (simp; done))) ?_)
      clear hF; rintro _ w ⟨v505, M506, rfl, hM507, hS1⟩ a hF
      replace hS := hS.callB hS1 rfl; clear hS1
      obtain ⟨Av505, cv505, rfl⟩ := hS.form 0 rfl
      have hM507l := secF_len st469 Lq471 Fq476 (rm472); rw [← hM507] at hM507l
      replace hSS := hS.sub [5, 1] (by decide) rfl (by simp)
      refine ⟨.inr hSS, ?_⟩
      refine ha_one 5 (by kernel_rfl) rfl (wn_none rfl) (wp_call (vs := [_, _]) hF rfl rfl rfl rfl cf14 (csecF2_any st469 _ Lq471 (rm472) _ Fq476 _ (hS.rdRow 6 rfl) (by first | omega | (simp; done)) (by first | omega | (simp; done)) (hS.rdRow 4 rfl) (by first | omega | (simp; done))) ?_)
      clear hF; rintro _ w ⟨v508, M509, rfl, hM510, hS1⟩ a hF
      replace hS := hS.callB hS1 rfl; clear hS1
      obtain ⟨Av508, cv508, rfl⟩ := hS.form 0 rfl
      have hM510l := secF_len st469 Lq471 Fq476 (rm472); rw [← hM510] at hM510l
      replace hSS := hS.sub [6, 2] (by decide) rfl (by simp)
      refine ⟨.inr hSS, ?_⟩
      refine ha_one 6 (by kernel_rfl) rfl (wn_none rfl) (wp_call (vs := [_, _]) hF rfl rfl rfl rfl cf12 (sameI_any _ _ M506 M509 _ (hS.rdRow 1 rfl) (hS.rdRow 0 rfl) (by first | omega | (simp; done) | (simp; omega))) ?_)
      clear hF; rintro _ w ⟨rfl, hS1⟩ a hF
      replace hS := hS.callB hS1 rfl; clear hS1
      replace hSS := hS.sub [6, 2] (by decide) rfl (by simp)
      refine ⟨.inr hSS, ?_⟩
      replace hF := fr_set (b' := true) hF (by rw [hM507, hM510]; simp)
      refine ha_y 7 hF rfl rfl rfl (wn_none rfl) (.inr hSS) (yl_move hF rfl rfl) ?_
      clear hF; intro a hF
      refine ha_y 9 hF rfl rfl rfl (wn_t hF rfl rfl rfl rfl) (.inr hSS) (yl_move hF rfl rfl) ?_
      clear hF; intro a hF
      refine ha_y 13 hF rfl rfl rfl (wn_t hF rfl rfl rfl rfl) (.inr hSS) (yl_move hF rfl rfl) ?_
      clear hF; intro a hF
      refine ha_l 8 hF rfl rfl rfl (wn_t hF rfl rfl rfl rfl) hSS (yl_loadK (rs := [_, _, _]) (fun _ h => h) hF rfl rfl 0 rfl ag24 sz24 rfl rfl) ?_
      clear hF; intro a hF
      refine ha_l 10 hF rfl rfl rfl (wn_t hF rfl rfl rfl rfl) hSS (yl_loadK (rs := [_, _]) (fun _ h => h) hF rfl rfl 1 rfl ag28 sz28 rfl rfl) ?_
      clear hF; intro a hF
      refine ha_l 12 hF rfl rfl rfl (wn_t hF rfl rfl rfl rfl) hSS (yl_loadK (rs := [_, _, _]) (fun _ h => h) hF rfl rfl 0 rfl ag24 sz24 rfl rfl) ?_
      clear hF; intro a hF
      refine ha_l 14 hF rfl rfl rfl (wn_t hF rfl rfl rfl rfl) hSS (yl_loadK (rs := [_, _]) (fun _ h => h) hF rfl rfl 1 rfl ag28 sz28 rfl rfl) ?_
      clear hF; intro a hF
      refine ha_one 11 (by kernel_rfl) rfl (wn_t hF rfl rfl rfl rfl) (wp_call (vs := [_, _, _]) hF rfl rfl rfl rfl cf15 (choose_any st469 _ Lq471 (rm472) _ Fq476 _ Pq479 _ Tq481 _ (hS.rdRow 7 rfl) (by first | omega | (simp; done)) (by first | omega | (simp; done)) (hS.rdRow 5 rfl) (by first | omega | (simp; done)) (hS.rdRow 3 rfl) (hS.rdRow 4 rfl) (by first | omega | (simp; done)) (by first | omega | (simp; done))) ?_)
      clear hF; rintro _ w ⟨rfl, hS1⟩ a hF
      replace hS := hS.callB hS1 rfl; clear hS1
      have hz511 := choose_bd st469 Lq471 Fq476 (rm472) Pq479 Tq481
      replace hSS := hS.sub [6, 2] (by decide) rfl (by simp)
      refine ⟨.inr hSS, ?_⟩
      refine ha_one 15 (by kernel_rfl) rfl (wn_t hF rfl rfl rfl rfl) (wp_call (vs := [_, _, _]) hF rfl rfl rfl rfl cf16 (choose2_any st469 _ Lq471 (rm472) _ Fq476 _ Pq479 _ Tq481 _ (hS.rdRow 7 rfl) (by first | omega | (simp; done)) (by first | omega | (simp; done)) (hS.rdRow 5 rfl) (by first | omega | (simp; done)) (hS.rdRow 3 rfl) (hS.rdRow 4 rfl) (by first | omega | (simp; done)) (by first | omega | (simp; done))) ?_)
      clear hF; rintro _ w ⟨rfl, hS1⟩ a hF
      replace hS := hS.callB hS1 rfl; clear hS1
      have hz512 := choose_bd st469 Lq471 Fq476 (rm472) Pq479 Tq481
      replace hSS := hS.sub [6, 2] (by decide) rfl (by simp)
      refine ⟨.inr hSS, ?_⟩
      refine ha_y 16 hF rfl rfl rfl (wn_t hF rfl rfl rfl rfl) (.inr hSS) (yl_bin hF rfl rfl rfl rfl (fun _ => run_str_eql)) ?_
      clear hF; intro a hF
      replace hF := fr_set (b' := true) hF (by simp)
      refine ha_y 17 hF rfl rfl rfl (wn_none rfl) (.inr hSS) (yl_pick (u := _) (v := undef) hF rfl rfl (fun _ => rfl) (fun h => by cases h)) ?_
      clear hF; intro a hF
      refine ha_y 18 hF rfl rfl rfl (wn_none rfl) (.inr hSS) (yl_move hF rfl rfl) ?_
      clear hF; intro a hF
      refine ha_y 20 hF rfl rfl rfl (wn_t hF rfl rfl rfl rfl) (.inr hSS) (yl_move hF rfl rfl) ?_
      clear hF; intro a hF
      refine ha_y 21 hF rfl rfl rfl (wn_t hF rfl rfl rfl rfl) (.inr hSS) (yl_move hF rfl rfl) ?_
      clear hF; intro a hF
      refine ha_y 24 hF rfl rfl rfl (wn_t hF rfl rfl rfl rfl) (.inr hSS) (yl_move hF rfl rfl) ?_
      clear hF; intro a hF
      refine ha_y 25 hF rfl rfl rfl (wn_t hF rfl rfl rfl rfl) (.inr hSS) (yl_move hF rfl rfl) ?_
      clear hF; intro a hF
      refine ha_l 19 hF rfl rfl rfl (wn_t hF rfl rfl rfl rfl) hSS (yl_loadK (rs := [_, _, _]) (fun _ h => h) hF rfl rfl 0 rfl ag24 sz24 rfl rfl) ?_
      clear hF; intro a hF
      refine ha_l 23 hF rfl rfl rfl (wn_t hF rfl rfl rfl rfl) hSS (yl_loadK (rs := [_, _, _]) (fun _ h => h) hF rfl rfl 0 rfl ag24 sz24 rfl rfl) ?_
      clear hF; intro a hF
      refine ha_one 22 (by kernel_rfl) rfl (wn_t hF rfl rfl rfl rfl) (wp_call (vs := [_, _, _]) hF rfl rfl rfl rfl cf17 (perm_any st469 _ Lq471 (rm472) _ Fq476 (chooseF st469 Lq471 Fq476 (rm472) Pq479 Tq481) _ (hS.rdRow 7 rfl) (by first | omega | (simp; done)) (by first | omega | (simp; done)) (hS.rdRow 5 rfl) (by first | omega | (simp; done)) (by first | omega | (simp; done))) ?_)
      clear hF; rintro _ w ⟨bq513, rfl, hpm514, hS1⟩ a hF
      replace hS := hS.callB hS1 rfl; clear hS1
      replace hSS := hS.sub [6, 2] (by decide) rfl (by simp)
      refine ⟨.inr hSS, ?_⟩
      refine ha_one 26 (by kernel_rfl) rfl (wn_t hF rfl rfl rfl rfl) (wp_call (vs := [_, _, _]) hF rfl rfl rfl rfl cf18 (perm2_any st469 _ Lq471 (rm472) _ Fq476 (chooseF st469 Lq471 Fq476 (rm472) Pq479 Tq481) _ (hS.rdRow 7 rfl) (by first | omega | (simp; done)) (by first | omega | (simp; done)) (hS.rdRow 5 rfl) (by first | omega | (simp; done)) (by first | omega | (simp; done))) ?_)
      clear hF; rintro _ w ⟨bq515, rfl, hpm516, hS1⟩ a hF
      replace hS := hS.callB hS1 rfl; clear hS1
      replace hSS := hS.sub [6, 2] (by decide) rfl (by simp)
      refine ⟨.inr hSS, ?_⟩
      refine ha_y 27 hF rfl rfl rfl (wn_t hF rfl rfl rfl rfl) (.inr hSS) (yl_bin hF rfl rfl rfl rfl (fun _ => run_eqb Try.underlying4)) ?_
      clear hF; intro a hF
      replace hF := fr_set (b' := true) hF (by have h9 := Bool.eq_iff_iff.2 (hpm514.trans hpm516.symm); subst h9; simp)
      refine ha_y 28 hF rfl rfl rfl (wn_none rfl) (.inr hSS) (yl_pick (u := _) (v := undef) hF rfl rfl (fun _ => rfl) (fun h => by cases h)) ?_
      clear hF; intro a hF
      refine ha_y 29 hF rfl rfl rfl (wn_none rfl) (.inr hSS) (yl_move hF rfl rfl) ?_
      clear hF; intro a hF
      refine ha_one 30 (by kernel_rfl) rfl (wn_t hF rfl rfl rfl rfl) (wp_call (vs := []) hF rfl rfl rfl rfl cf19 (awake_any _) ?_)
      clear hF; rintro _ w ⟨rfl, hS1⟩ a hF
      replace hS := hS.callB hS1 rfl; clear hS1
      replace hSS := hS.sub [6, 2] (by decide) rfl (by simp)
      refine ⟨.inr hSS, ?_⟩
      refine ha_y 31 hF rfl rfl rfl (wn_none rfl) (.inr hSS) (yl_pick (u := _) (v := undef) hF rfl rfl (fun _ => rfl) (fun h => by cases h)) ?_
      clear hF; intro a hF
      refine ha_y 32 hF rfl rfl rfl (wn_none rfl) (.inr hSS) (yl_assign hF rfl rfl) ?_
      clear hF; intro a hF
      refine ha_done (by kernel_rfl) ?_ _
      refine then_n ?_
      refine wp_ret ?_
      refine ret_t hF rfl rfl ?_
      exact ⟨_, rfl, rfl, (hS.sub [] (by decide) (by first | rfl | simp) (by simp))⟩
  · skip
    refine seq_yl hF (wn_none rfl) rfl rfl (yl_move hF rfl rfl) ?_
    clear hF; intro a hF
    refine seq_yl hF (wn_none rfl) rfl rfl (yl_extract hF rfl rfl rfl) ?_
    clear hF; intro a hF
    refine seq_yl hF (wn_none rfl) rfl rfl (yl_extract hF rfl rfl rfl) ?_
    clear hF; intro a hF
    refine seq_yl hF (wn_none rfl) rfl rfl (yl_assign hF rfl rfl) ?_
    clear hF; intro a hF
    refine seq_yl hF (wn_none rfl) rfl rfl (yl_assign hF rfl rfl) ?_
    clear hF; intro a hF
    refine wpList_nil ?_
    refine then_n ?_
    refine c_seq ?_
    refine c_region ?_
    try (have hwz9 := hsp489z hk490)
    refine seq_yl hF (wn_none rfl) rfl rfl (yl_move hF rfl rfl) ?_
    clear hF; intro a hF
    refine seq_yl hF (wn_none rfl) rfl rfl (yl_move hF rfl rfl) ?_
    clear hF; intro a hF
    refine seq_skip hF (wn_f hF rfl rfl rfl rfl) rfl rfl ?_
    clear hF; intro a hF
    refine seq_skip hF (wn_f hF rfl rfl rfl rfl) rfl rfl ?_
    clear hF; intro a hF
    refine seq_skip hF (wn_f hF rfl rfl rfl rfl) rfl rfl ?_
    clear hF; intro a hF
    refine seq_yl hF (wn_none rfl) rfl rfl (yl_pick (u := _) (v := undef) hF rfl rfl (fun h => by cases h) (fun _ => rfl)) ?_
    clear hF; intro a hF
    refine wpList_nil ?_
    refine then_n ?_
    refine c_cond_f hF rfl ?_
    refine wp_skip ?_
    refine then_n ?_
    refine c_seq ?_
    refine ha_startS hS [4, 0] 33 (by kernel_rfl) ?_; clear hS; intro w hS
    have hSS := hS.sub [4, 0] (by decide) rfl (by simp)
    refine ha_y 1 hF rfl rfl rfl (wn_none rfl) (.inr hSS) (yl_move hF rfl rfl) ?_
    clear hF; intro a hF
    refine ha_y 4 hF rfl rfl rfl (wn_none rfl) (.inr hSS) (yl_move hF rfl rfl) ?_
    clear hF; intro a hF
    refine ha_l 0 hF rfl rfl rfl (wn_none rfl) hSS (yl_loadK (rs := [_, _, _]) (fun _ h => h) hF rfl rfl 0 rfl ag24 sz24 rfl rfl) ?_
    clear hF; intro a hF
    refine ha_l 3 hF rfl rfl rfl (wn_none rfl) hSS (yl_loadK (rs := [_, _, _]) (fun _ h => h) hF rfl rfl 0 rfl ag24 sz24 rfl rfl) ?_
    clear hF; intro a hF
    refine ha_one 2 (by kernel_rfl) rfl (wn_none rfl) (wp_call (vs := [_, _]) hF rfl rfl rfl rfl cf13 (csecF_any st469 _ Lq471 (rm472) _ Fq476 _ (hS.rdRow 5 rfl) (by first | omega | (simp; done)) (by first | omega | (simp; done)) (hS.rdRow 3 rfl) (by first | omega | (simp; done))) ?_)
    clear hF; rintro _ w ⟨v517, M518, rfl, hM519, hS1⟩ a hF
    replace hS := hS.callB hS1 rfl; clear hS1
    obtain ⟨Av517, cv517, rfl⟩ := hS.form 0 rfl
    have hM519l := secF_len st469 Lq471 Fq476 (rm472); rw [← hM519] at hM519l
    replace hSS := hS.sub [5, 1] (by decide) rfl (by simp)
    refine ⟨.inr hSS, ?_⟩
    refine ha_one 5 (by kernel_rfl) rfl (wn_none rfl) (wp_call (vs := [_, _]) hF rfl rfl rfl rfl cf14 (csecF2_any st469 _ Lq471 (rm472) _ Fq476 _ (hS.rdRow 6 rfl) (by first | omega | (simp; done)) (by first | omega | (simp; done)) (hS.rdRow 4 rfl) (by first | omega | (simp; done))) ?_)
    clear hF; rintro _ w ⟨v520, M521, rfl, hM522, hS1⟩ a hF
    replace hS := hS.callB hS1 rfl; clear hS1
    obtain ⟨Av520, cv520, rfl⟩ := hS.form 0 rfl
    have hM522l := secF_len st469 Lq471 Fq476 (rm472); rw [← hM522] at hM522l
    replace hSS := hS.sub [6, 2] (by decide) rfl (by simp)
    refine ⟨.inr hSS, ?_⟩
    refine ha_one 6 (by kernel_rfl) rfl (wn_none rfl) (wp_call (vs := [_, _]) hF rfl rfl rfl rfl cf12 (sameI_any _ _ M518 M521 _ (hS.rdRow 1 rfl) (hS.rdRow 0 rfl) (by first | omega | (simp; done) | (simp; omega))) ?_)
    clear hF; rintro _ w ⟨rfl, hS1⟩ a hF
    replace hS := hS.callB hS1 rfl; clear hS1
    replace hSS := hS.sub [6, 2] (by decide) rfl (by simp)
    refine ⟨.inr hSS, ?_⟩
    replace hF := fr_set (b' := true) hF (by rw [hM519, hM522]; simp)
    refine ha_y 7 hF rfl rfl rfl (wn_none rfl) (.inr hSS) (yl_move hF rfl rfl) ?_
    clear hF; intro a hF
    refine ha_y 9 hF rfl rfl rfl (wn_t hF rfl rfl rfl rfl) (.inr hSS) (yl_move hF rfl rfl) ?_
    clear hF; intro a hF
    refine ha_y 13 hF rfl rfl rfl (wn_t hF rfl rfl rfl rfl) (.inr hSS) (yl_move hF rfl rfl) ?_
    clear hF; intro a hF
    refine ha_l 8 hF rfl rfl rfl (wn_t hF rfl rfl rfl rfl) hSS (yl_loadK (rs := [_, _, _]) (fun _ h => h) hF rfl rfl 0 rfl ag24 sz24 rfl rfl) ?_
    clear hF; intro a hF
    refine ha_l 10 hF rfl rfl rfl (wn_t hF rfl rfl rfl rfl) hSS (yl_loadK (rs := [_, _]) (fun _ h => h) hF rfl rfl 1 rfl ag28 sz28 rfl rfl) ?_
    clear hF; intro a hF
    refine ha_l 12 hF rfl rfl rfl (wn_t hF rfl rfl rfl rfl) hSS (yl_loadK (rs := [_, _, _]) (fun _ h => h) hF rfl rfl 0 rfl ag24 sz24 rfl rfl) ?_
    clear hF; intro a hF
    refine ha_l 14 hF rfl rfl rfl (wn_t hF rfl rfl rfl rfl) hSS (yl_loadK (rs := [_, _]) (fun _ h => h) hF rfl rfl 1 rfl ag28 sz28 rfl rfl) ?_
    clear hF; intro a hF
    refine ha_one 11 (by kernel_rfl) rfl (wn_t hF rfl rfl rfl rfl) (wp_call (vs := [_, _, _]) hF rfl rfl rfl rfl cf15 (choose_any st469 _ Lq471 (rm472) _ Fq476 _ Pq479 _ Tq481 _ (hS.rdRow 7 rfl) (by first | omega | (simp; done)) (by first | omega | (simp; done)) (hS.rdRow 5 rfl) (by first | omega | (simp; done)) (hS.rdRow 3 rfl) (hS.rdRow 4 rfl) (by first | omega | (simp; done)) (by first | omega | (simp; done))) ?_)
    clear hF; rintro _ w ⟨rfl, hS1⟩ a hF
    replace hS := hS.callB hS1 rfl; clear hS1
    have hz523 := choose_bd st469 Lq471 Fq476 (rm472) Pq479 Tq481
    replace hSS := hS.sub [6, 2] (by decide) rfl (by simp)
    refine ⟨.inr hSS, ?_⟩
    refine ha_one 15 (by kernel_rfl) rfl (wn_t hF rfl rfl rfl rfl) (wp_call (vs := [_, _, _]) hF rfl rfl rfl rfl cf16 (choose2_any st469 _ Lq471 (rm472) _ Fq476 _ Pq479 _ Tq481 _ (hS.rdRow 7 rfl) (by first | omega | (simp; done)) (by first | omega | (simp; done)) (hS.rdRow 5 rfl) (by first | omega | (simp; done)) (hS.rdRow 3 rfl) (hS.rdRow 4 rfl) (by first | omega | (simp; done)) (by first | omega | (simp; done))) ?_)
    clear hF; rintro _ w ⟨rfl, hS1⟩ a hF
    replace hS := hS.callB hS1 rfl; clear hS1
    have hz524 := choose_bd st469 Lq471 Fq476 (rm472) Pq479 Tq481
    replace hSS := hS.sub [6, 2] (by decide) rfl (by simp)
    refine ⟨.inr hSS, ?_⟩
    refine ha_y 16 hF rfl rfl rfl (wn_t hF rfl rfl rfl rfl) (.inr hSS) (yl_bin hF rfl rfl rfl rfl (fun _ => run_str_eql)) ?_
    clear hF; intro a hF
    replace hF := fr_set (b' := true) hF (by simp)
    refine ha_y 17 hF rfl rfl rfl (wn_none rfl) (.inr hSS) (yl_pick (u := _) (v := undef) hF rfl rfl (fun _ => rfl) (fun h => by cases h)) ?_
    clear hF; intro a hF
    refine ha_y 18 hF rfl rfl rfl (wn_none rfl) (.inr hSS) (yl_move hF rfl rfl) ?_
    clear hF; intro a hF
    refine ha_y 20 hF rfl rfl rfl (wn_t hF rfl rfl rfl rfl) (.inr hSS) (yl_move hF rfl rfl) ?_
    clear hF; intro a hF
    refine ha_y 21 hF rfl rfl rfl (wn_t hF rfl rfl rfl rfl) (.inr hSS) (yl_move hF rfl rfl) ?_
    clear hF; intro a hF
    refine ha_y 24 hF rfl rfl rfl (wn_t hF rfl rfl rfl rfl) (.inr hSS) (yl_move hF rfl rfl) ?_
    clear hF; intro a hF
    refine ha_y 25 hF rfl rfl rfl (wn_t hF rfl rfl rfl rfl) (.inr hSS) (yl_move hF rfl rfl) ?_
    clear hF; intro a hF
    refine ha_l 19 hF rfl rfl rfl (wn_t hF rfl rfl rfl rfl) hSS (yl_loadK (rs := [_, _, _]) (fun _ h => h) hF rfl rfl 0 rfl ag24 sz24 rfl rfl) ?_
    clear hF; intro a hF
    refine ha_l 23 hF rfl rfl rfl (wn_t hF rfl rfl rfl rfl) hSS (yl_loadK (rs := [_, _, _]) (fun _ h => h) hF rfl rfl 0 rfl ag24 sz24 rfl rfl) ?_
    clear hF; intro a hF
    refine ha_one 22 (by kernel_rfl) rfl (wn_t hF rfl rfl rfl rfl) (wp_call (vs := [_, _, _]) hF rfl rfl rfl rfl cf17 (perm_any st469 _ Lq471 (rm472) _ Fq476 (chooseF st469 Lq471 Fq476 (rm472) Pq479 Tq481) _ (hS.rdRow 7 rfl) (by first | omega | (simp; done)) (by first | omega | (simp; done)) (hS.rdRow 5 rfl) (by first | omega | (simp; done)) (by first | omega | (simp; done))) ?_)
    clear hF; rintro _ w ⟨bq525, rfl, hpm526, hS1⟩ a hF
    replace hS := hS.callB hS1 rfl; clear hS1
    replace hSS := hS.sub [6, 2] (by decide) rfl (by simp)
    refine ⟨.inr hSS, ?_⟩
    refine ha_one 26 (by kernel_rfl) rfl (wn_t hF rfl rfl rfl rfl) (wp_call (vs := [_, _, _]) hF rfl rfl rfl rfl cf18 (perm2_any st469 _ Lq471 (rm472) _ Fq476 (chooseF st469 Lq471 Fq476 (rm472) Pq479 Tq481) _ (hS.rdRow 7 rfl) (by first | omega | (simp; done)) (by first | omega | (simp; done)) (hS.rdRow 5 rfl) (by first | omega | (simp; done)) (by first | omega | (simp; done))) ?_)
    clear hF; rintro _ w ⟨bq527, rfl, hpm528, hS1⟩ a hF
    replace hS := hS.callB hS1 rfl; clear hS1
    replace hSS := hS.sub [6, 2] (by decide) rfl (by simp)
    refine ⟨.inr hSS, ?_⟩
    refine ha_y 27 hF rfl rfl rfl (wn_t hF rfl rfl rfl rfl) (.inr hSS) (yl_bin hF rfl rfl rfl rfl (fun _ => run_eqb Try.underlying4)) ?_
    clear hF; intro a hF
    replace hF := fr_set (b' := true) hF (by have h9 := Bool.eq_iff_iff.2 (hpm526.trans hpm528.symm); subst h9; simp)
    refine ha_y 28 hF rfl rfl rfl (wn_none rfl) (.inr hSS) (yl_pick (u := _) (v := undef) hF rfl rfl (fun _ => rfl) (fun h => by cases h)) ?_
    clear hF; intro a hF
    refine ha_y 29 hF rfl rfl rfl (wn_none rfl) (.inr hSS) (yl_move hF rfl rfl) ?_
    clear hF; intro a hF
    refine ha_one 30 (by kernel_rfl) rfl (wn_t hF rfl rfl rfl rfl) (wp_call (vs := []) hF rfl rfl rfl rfl cf19 (awake_any _) ?_)
    clear hF; rintro _ w ⟨rfl, hS1⟩ a hF
    replace hS := hS.callB hS1 rfl; clear hS1
    replace hSS := hS.sub [6, 2] (by decide) rfl (by simp)
    refine ⟨.inr hSS, ?_⟩
    refine ha_y 31 hF rfl rfl rfl (wn_none rfl) (.inr hSS) (yl_pick (u := _) (v := undef) hF rfl rfl (fun _ => rfl) (fun h => by cases h)) ?_
    clear hF; intro a hF
    refine ha_y 32 hF rfl rfl rfl (wn_none rfl) (.inr hSS) (yl_assign hF rfl rfl) ?_
    clear hF; intro a hF
    refine ha_done (by kernel_rfl) ?_ _
    refine then_n ?_
    refine wp_ret ?_
    refine ret_t hF rfl rfl ?_
    exact ⟨_, rfl, rfl, (hS.sub [] (by decide) (by first | rfl | simp) (by simp))⟩

end Go.Proofs.Ytlhcpeolkkadbaa

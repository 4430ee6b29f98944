/- walks, printed by wip/gen -/
import Derived.Test.YtlhcpeolkkadbaaWm
import Derived.Test.YtlhcpeolkkadbaaPE
namespace Go.Proofs.Ytlhcpeolkkadbaa
open Go.RowKit
set_option linter.unusedVariables false
set_option linter.unusedSimpArgs false

set_option maxHeartbeats 1000000 in
set_option maxRecDepth 100000 in
theorem outside_any (av : Value) (A : List Int) (bv : Value) (B : List Int) (gv : Value) (G : List Int) (n1 : Int) (w0 : World) (hav : Rd w0 1 av (A).length (cells encI (A))) (hal : A.length ≤ 9223372036854775807) (hbv : Rd w0 1 bv (B).length (cells encI (B))) (hbl : B.length ≤ 9223372036854775807) (hgv : Rd w0 1 gv (G).length (cells encI (G))) (hgl : G.length ≤ 9223372036854775807) :
    Fn Try.prog 6 #[av, bv, gv, .int .i64 n1] w0 (fun v w' => v = .bool true ∧ Sat w0 w' []) := by
  have hqz : (((⟨#[63, 63, 63, 63, 63, 63, 63, 63]⟩ : ByteArray)).size : Int) = 8 := by decide
  obtain ⟨Aav, cav, rfl⟩ := Rd.form hav
  obtain ⟨Abv, cbv, rfl⟩ := Rd.form hbv
  obtain ⟨Agv, cgv, rfl⟩ := Rd.form hgv
  refine c_enter (N := 58) (l := [_, _, _, _]) Try.func6 rfl rfl (fun a w hF hS => ?_)
  replace hS := hS.addRo hgv
  replace hS := hS.addRo hbv
  replace hS := hS.addRo hav
  refine c_seq ?_
  refine c_region ?_
  refine seq_yl hF (wn_none rfl) rfl rfl (yl_assign hF rfl rfl) ?_
  clear hF; intro a hF
  refine wpList_nil ?_
  refine then_n ?_
  refine c_seq ?_
  refine c_region ?_
  refine seq_yl hF (wn_none rfl) rfl rfl (yl_move hF rfl rfl) ?_
  clear hF; intro a hF
  refine seq_wp (wn_none rfl) (wp_call (vs := [_]) hF rfl rfl rfl rfl cf20 (drive_any _ A _ (hS.rdRo 0 rfl) (by first | omega | (simp; done) | (simp; omega))) ?_)
  clear hF; rintro _ w ⟨st529, v530, Lq531, rm532, rfl, hd533, hS1⟩ a hF
  replace hS := hS.callB hS1 rfl; clear hS1
  obtain ⟨Av530, cv530, rfl⟩ := hS.form 0 rfl
  obtain ⟨hd533d, hd533s⟩ := hd533; have hd533i := okD_I hd533d
  refine seq_wp (wn_none rfl) (wp_alloc (cs := #[_, _, _]) hF hS rfl rfl rfl zr24 rfl ?_)
  clear hF hS; intro a w g534 hF hS
  refine seq_wp (wn_none rfl) (wp_store (cs' := #[_, _, _]) hF hS rfl rfl rfl rfl 0 rfl sz24 (by simp [Value.cells, Value.oneCell']) (by simp [Value.cells]) rfl ?_)
  clear hF hS; intro a w hF hS
  refine wpList_nil ?_
  refine then_n ?_
  refine c_seq ?_
  refine c_region ?_
  refine seq_yl hF (wn_none rfl) rfl rfl (yl_loadK (rs := [_, _, _]) (fun _ h => h ▸ hS) hF rfl rfl 0 rfl ag24 sz24 rfl rfl) ?_
  clear hF; intro a hF
  refine seq_yl hF (wn_none rfl) rfl rfl (yl_move hF rfl rfl) ?_
  clear hF; intro a hF
  refine seq_wp (wn_none rfl) (wp_call (vs := [_, _]) hF rfl rfl rfl rfl cf21 (flying_any st529 _ (rm532) _ B _ (hS.rdRo 3 rfl) (by first | omega | (simp; done) | (simp; omega)) (by unfold okI; omega) (by omega)) ?_)
  clear hF; rintro _ w ⟨v535, Fq536, rfl, hfy537, hS1⟩ a hF
  replace hS := hS.callB hS1 rfl; clear hS1
  obtain ⟨Av535, cv535, rfl⟩ := hS.form 0 rfl
  have hfy537l := hfy537.1
  refine seq_yl hF (wn_none rfl) rfl rfl (yl_assign hF rfl rfl) ?_
  clear hF; intro a hF
  refine wpList_nil ?_
  refine then_n ?_
  refine c_seq ?_
  refine ha_startS hS [1] 6 (by kernel_rfl) ?_; clear hS; intro w hS
  have hSS := hS.sub [1] (by decide) rfl (by simp)
  refine ha_y 1 hF rfl rfl rfl (wn_none rfl) (.inr hSS) (yl_move hF rfl rfl) ?_
  clear hF; intro a hF
  refine ha_y 2 hF rfl rfl rfl (wn_none rfl) (.inr hSS) (yl_move hF rfl rfl) ?_
  clear hF; intro a hF
  refine ha_l 0 hF rfl rfl rfl (wn_none rfl) hSS (yl_loadK (rs := [_, _, _]) (fun _ h => h) hF rfl rfl 0 rfl ag24 sz24 rfl rfl) ?_
  clear hF; intro a hF
  refine ha_one 3 (by kernel_rfl) rfl (wn_none rfl) (wp_call (vs := [_]) hF rfl rfl rfl rfl cf22 (choice_any _ G _ (hS.rdRo 5 rfl) (by first | omega | (simp; done) | (simp; omega))) ?_)
  clear hF; rintro _ w ⟨v538, Pq539, v540, Tq541, rfl, hch542, hS1⟩ a hF
  replace hS := hS.callB hS1 rfl; clear hS1
  obtain ⟨Av538, cv538, rfl⟩ := hS.form 0 rfl
  obtain ⟨Av540, cv540, rfl⟩ := hS.form 1 rfl
  replace hSS := hS.sub [3] (by decide) rfl (by simp)
  refine ⟨.inr hSS, ?_⟩
  refine ha_one 4 (by kernel_rfl) rfl (wn_none rfl) (wp_call (vs := [_, _, _]) hF rfl rfl rfl rfl cf15 (choose_any st529 _ Lq531 (rm532) _ Fq536 _ Pq539 _ Tq541 _ (hS.rdRow 4 rfl) (by first | omega | (simp; done)) (by first | omega | (simp; done)) (hS.rdRow 2 rfl) (by first | omega | (simp; done)) (hS.rdRow 0 rfl) (hS.rdRow 1 rfl) (by first | omega | (simp; done)) (by first | omega | (simp; done))) ?_)
  clear hF; rintro _ w ⟨rfl, hS1⟩ a hF
  replace hS := hS.callB hS1 rfl; clear hS1
  have hz543 := choose_bd st529 Lq531 Fq536 (rm532) Pq539 Tq541
  replace hSS := hS.sub [3] (by decide) rfl (by simp)
  refine ⟨.inr hSS, ?_⟩
  refine ha_y 5 hF rfl rfl rfl (wn_none rfl) (.inr hSS) (yl_assign hF rfl rfl) ?_
  clear hF; intro a hF
  refine ha_done (by kernel_rfl) ?_ _
  refine then_n ?_
  refine c_seq ?_
  refine c_region ?_
  have hC : okC st529 Lq531 Fq536 rm532 := okC_of hd533d hfy537.2; have hcz := choose_size (P := Pq539) (T := Tq541) hC
  refine seq_yl hF (wn_none rfl) rfl rfl (yl_move hF rfl rfl) ?_
  clear hF; intro a hF
  refine seq_yl hF (wn_none rfl) rfl rfl (yl_move hF rfl rfl) ?_
  clear hF; intro a hF
  refine seq_yl hF (wn_none rfl) rfl rfl (yl_loadK (rs := [_, _, _]) (fun _ h => h ▸ hS) hF rfl rfl 3 rfl ag24 sz24 rfl rfl) ?_
  clear hF; intro a hF
  refine seq_wp (wn_none rfl) (wp_call (vs := [_]) hF rfl rfl rfl rfl cf27 (secs_any st529 _ _ _ (by omega)) ?_)
  clear hF; rintro _ w ⟨rfl, hS1⟩ a hF
  replace hS := hS.callB hS1 rfl; clear hS1
  have hr544 := rnd_bounds (n1) ((((st529).size : Int) / 8)) (by omega)
  refine seq_wp (wn_none rfl) (wp_call (vs := [_, _]) hF rfl rfl rfl rfl cf24 (round_any (n1) ((((st529).size : Int) / 8)) _ (by omega)) ?_)
  clear hF; rintro _ w ⟨rfl, hS1⟩ a hF
  replace hS := hS.callB hS1 rfl; clear hS1
  refine seq_wp (wn_none rfl) (wp_call (vs := [_, _, _]) hF rfl rfl rfl rfl cf23 (imWrite2_any (chooseF st529 Lq531 Fq536 (rm532) Pq539 Tq541) ((rnd (n1) ((((st529).size : Int) / 8)))) (ByteArray.mk #[63, 63, 63, 63, 63, 63, 63, 63]) _ (by omega) (by omega)) ?_)
  clear hF; rintro _ w ⟨xs545, e546, rfl, hsp547, hS1⟩ a hF
  replace hS := hS.callB hS1 rfl; clear hS1
  have hsp547z := fun h9 : okW (((chooseF st529 Lq531 Fq536 (rm532) Pq539 Tq541)).size : Int) ((rnd (n1) ((((st529).size : Int) / 8)))) (((ByteArray.mk #[63, 63, 63, 63, 63, 63, 63, 63])).size : Int) => wim_size (im := (chooseF st529 Lq531 Fq536 (rm532) Pq539 Tq541)) (s := ((rnd (n1) ((((st529).size : Int) / 8))))) (x := (ByteArray.mk #[63, 63, 63, 63, 63, 63, 63, 63])) h9
  obtain ⟨hk548, rfl, rfl⟩ := hsp547.resolve_right (fun h9 => h9.1 (okW_of (by unfold okS okI; omega) (by decide)))
  try (have hk548x := hk548; simp only [okS, okI, okW, okP] at hk548x)
  refine seq_yl hF (wn_none rfl) rfl rfl (yl_move hF rfl rfl) ?_
  clear hF; intro a hF
  refine seq_yl hF (wn_none rfl) rfl rfl (yl_extract hF rfl rfl rfl) ?_
  clear hF; intro a hF
  refine seq_yl hF (wn_none rfl) rfl rfl (yl_extract hF rfl rfl rfl) ?_
  clear hF; intro a hF
  refine seq_yl hF (wn_none rfl) rfl rfl (yl_assign hF rfl rfl) ?_
  clear hF; intro a hF
  refine seq_yl hF (wn_none rfl) rfl rfl (yl_assign hF rfl rfl) ?_
  clear hF; intro a hF
  refine wpList_nil ?_
  refine then_n ?_
  refine c_seq ?_
  refine c_region ?_
  try (have hwz9 := hsp547z hk548)
  refine seq_yl hF (wn_none rfl) rfl rfl (yl_move hF rfl rfl) ?_
  clear hF; intro a hF
  refine seq_yl hF (wn_none rfl) rfl rfl (yl_move hF rfl rfl) ?_
  clear hF; intro a hF
  refine seq_yl hF (wn_t hF rfl rfl rfl rfl) rfl rfl (yl_loadK (rs := [_, _, _]) (fun _ h => h ▸ hS) hF rfl rfl 3 rfl ag24 sz24 rfl rfl) ?_
  clear hF; intro a hF
  refine seq_yl hF (wn_t hF rfl rfl rfl rfl) rfl rfl (yl_move hF rfl rfl) ?_
  clear hF; intro a hF
  refine seq_yl hF (wn_t hF rfl rfl rfl rfl) rfl rfl (yl_move hF rfl rfl) ?_
  clear hF; intro a hF
  refine seq_wp (wn_t hF rfl rfl rfl rfl) (wp_call (vs := [_, _, _]) hF rfl rfl rfl rfl cf17 (perm_any st529 _ Lq531 (rm532) _ Fq536 (chooseF st529 Lq531 Fq536 (rm532) Pq539 Tq541) _ (hS.rdRow 4 rfl) (by first | omega | (simp; done)) (by first | omega | (simp; done)) (hS.rdRow 2 rfl) (by first | omega | (simp; done)) (by first | omega | (simp; done))) ?_)
  clear hF; rintro _ w ⟨bq549, rfl, hpm550, hS1⟩ a hF
  replace hS := hS.callB hS1 rfl; clear hS1
  replace hF := fr_set (b' := true) hF (hpm550.2 (perm_choose hC))
  refine seq_yl hF (wn_none rfl) rfl rfl (yl_pick (u := _) (v := undef) hF rfl rfl (fun _ => rfl) (fun h => by cases h)) ?_
  clear hF; intro a hF
  refine seq_yl hF (wn_none rfl) rfl rfl (yl_move hF rfl rfl) ?_
  clear hF; intro a hF
  refine seq_yl hF (wn_t hF rfl rfl rfl rfl) rfl rfl (yl_loadK (rs := [_, _, _]) (fun _ h => h ▸ hS) hF rfl rfl 3 rfl ag24 sz24 rfl rfl) ?_
  clear hF; intro a hF
  refine seq_yl hF (wn_t hF rfl rfl rfl rfl) rfl rfl (yl_move hF rfl rfl) ?_
  clear hF; intro a hF
  refine seq_yl hF (wn_t hF rfl rfl rfl rfl) rfl rfl (yl_move hF rfl rfl) ?_
  clear hF; intro a hF
  refine seq_wp (wn_t hF rfl rfl rfl rfl) (wp_call (vs := [_, _, _]) hF rfl rfl rfl rfl cf17 (perm_any st529 _ Lq531 (rm532) _ Fq536 (wim (chooseF st529 Lq531 Fq536 (rm532) Pq539 Tq541) ((rnd (n1) ((((st529).size : Int) / 8)))) (ByteArray.mk #[63, 63, 63, 63, 63, 63, 63, 63])) _ (hS.rdRow 4 rfl) (by first | omega | (simp; done)) (by first | omega | (simp; done)) (hS.rdRow 2 rfl) (by first | omega | (simp; done)) (by first | omega | (simp; done))) ?_)
  clear hF; rintro _ w ⟨bq551, rfl, hpm552, hS1⟩ a hF
  replace hS := hS.callB hS1 rfl; clear hS1
  replace hF := fr_set (b' := false) hF (Bool.eq_false_iff.2 (fun h9 => perm_quest hd533s.2.2.2 hfy537.2 (by unfold okS okI; omega) hcz (by decide) (by decide) (hpm552.1 h9)))
  refine seq_yl hF (wn_t hF rfl rfl rfl rfl) rfl rfl (yl_un hF rfl rfl (fun _ => run_not)) ?_
  clear hF; intro a hF
  refine seq_yl hF (wn_none rfl) rfl rfl (yl_pick (u := _) (v := undef) hF rfl rfl (fun _ => rfl) (fun h => by cases h)) ?_
  clear hF; intro a hF
  refine seq_yl hF (wn_none rfl) rfl rfl (yl_move hF rfl rfl) ?_
  clear hF; intro a hF
  refine seq_yl hF (wn_t hF rfl rfl rfl rfl) rfl rfl (yl_loadK (rs := [_, _, _]) (fun _ h => h ▸ hS) hF rfl rfl 3 rfl ag24 sz24 rfl rfl) ?_
  clear hF; intro a hF
  refine seq_yl hF (wn_t hF rfl rfl rfl rfl) rfl rfl (yl_move hF rfl rfl) ?_
  clear hF; intro a hF
  refine seq_yl hF (wn_t hF rfl rfl rfl rfl) rfl rfl (yl_move hF rfl rfl) ?_
  clear hF; intro a hF
  have hz553 := cat_size (chooseF st529 Lq531 Fq536 (rm532) Pq539 Tq541) (ByteArray.mk #[63, 63, 63, 63, 63, 63, 63, 63])
  refine seq_yl hF (wn_t hF rfl rfl rfl rfl) rfl rfl (yl_bin hF rfl rfl rfl rfl (fun _ => run_catS (x := (chooseF st529 Lq531 Fq536 (rm532) Pq539 Tq541)) (y := (ByteArray.mk #[63, 63, 63, 63, 63, 63, 63, 63])) (by omega))) ?_
  clear hF; intro a hF
  refine seq_wp (wn_t hF rfl rfl rfl rfl) (wp_call (vs := [_, _, _]) hF rfl rfl rfl rfl cf17 (perm_any st529 _ Lq531 (rm532) _ Fq536 ((chooseF st529 Lq531 Fq536 (rm532) Pq539 Tq541) ++ (ByteArray.mk #[63, 63, 63, 63, 63, 63, 63, 63])) _ (hS.rdRow 4 rfl) (by first | omega | (simp; done)) (by first | omega | (simp; done)) (hS.rdRow 2 rfl) (by first | omega | (simp; done)) (by first | omega | (simp; done))) ?_)
  clear hF; rintro _ w ⟨bq554, rfl, hpm555, hS1⟩ a hF
  replace hS := hS.callB hS1 rfl; clear hS1
  replace hF := fr_set (b' := false) hF (Bool.eq_false_iff.2 (fun h9 => by have h8 := (hpm555.1 h9).2.1; omega))
  refine seq_yl hF (wn_t hF rfl rfl rfl rfl) rfl rfl (yl_un hF rfl rfl (fun _ => run_not)) ?_
  clear hF; intro a hF
  refine seq_yl hF (wn_none rfl) rfl rfl (yl_pick (u := _) (v := undef) hF rfl rfl (fun _ => rfl) (fun h => by cases h)) ?_
  clear hF; intro a hF
  refine seq_yl hF (wn_none rfl) rfl rfl (yl_move hF rfl rfl) ?_
  clear hF; intro a hF
  refine seq_wp (wn_t hF rfl rfl rfl rfl) (wp_call (vs := []) hF rfl rfl rfl rfl cf19 (awake_any _) ?_)
  clear hF; rintro _ w ⟨rfl, hS1⟩ a hF
  replace hS := hS.callB hS1 rfl; clear hS1
  refine seq_yl hF (wn_none rfl) rfl rfl (yl_pick (u := _) (v := undef) hF rfl rfl (fun _ => rfl) (fun h => by cases h)) ?_
  clear hF; intro a hF
  refine seq_yl hF (wn_none rfl) rfl rfl (yl_assign hF rfl rfl) ?_
  clear hF; intro a hF
  refine wpList_nil ?_
  refine then_n ?_
  refine wp_ret ?_
  refine ret_t hF rfl rfl ?_
  exact ⟨_, rfl, rfl, (hS.sub [] (by decide) (by first | rfl | simp) (by simp))⟩

end Go.Proofs.Ytlhcpeolkkadbaa

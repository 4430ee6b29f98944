/- walks, printed by wip/gen -/
import Derived.Test.YtlhcpeolkkadbaaWh
import Derived.Test.YtlhcpeolkkadbaaPB
namespace Go.Proofs.Ytlhcpeolkkadbaa
open Go.RowKit
set_option linter.unusedVariables false
set_option linter.unusedSimpArgs false

set_option maxHeartbeats 1000000 in
set_option maxRecDepth 100000 in
theorem perm2_any (st : ByteArray) (lv : Value) (L : List E59) (rm : Int) (fv : Value) (F : List E59) (im : ByteArray) (w0 : World) (hv : Rd w0 2 lv (L).length (cells enc59 (L))) (hz : (st.size : Int) ≤ 9223372036854775807) (hL : L.length ≤ 1000000) (hf : Rd w0 2 fv (F).length (cells enc59 (F))) (hF0 : F.length ≤ 1000000) (hi : (im.size : Int) ≤ 9223372036854775807) :
    Fn Try.prog 18 #[.agg #[.string st, lv, .int .i64 rm], fv, .string im] w0 (fun v w' => ∃ b : Bool, v = .bool b ∧ (b = true ↔ Perm st L F rm im) ∧ Sat w0 w' []) := by
  obtain ⟨Alv, clv, rfl⟩ := Rd.form hv
  obtain ⟨Afv, cfv, rfl⟩ := Rd.form hf
  refine c_enter (N := 81) (l := [_, _, _]) Try.func18 rfl rfl (fun a w hF hS => ?_)
  replace hS := hS.addRo hf
  replace hS := hS.addRo hv
  refine c_seq ?_
  refine c_region ?_
  refine seq_wp (wn_none rfl) (wp_box (cs := #[_, _, _]) hF hS rfl rfl rfl rfl rfl ?_)
  clear hF hS; intro a w g317 hF hS
  refine seq_yl hF (wn_none rfl) rfl rfl (yl_assign hF rfl rfl) ?_
  clear hF; intro a hF
  refine wpList_nil ?_
  refine then_n ?_
  refine c_seq ?_
  refine c_seq ?_
  refine c_region ?_
  refine seq_yl hF (wn_none rfl) rfl rfl (yl_loadK (rs := [_, _, _]) (fun _ h => h ▸ hS) hF rfl rfl 0 rfl ag24 sz24 rfl rfl) ?_
  clear hF; intro a hF
  refine seq_yl hF (wn_none rfl) rfl rfl (yl_move hF rfl rfl) ?_
  clear hF; intro a hF
  refine seq_wp (wn_none rfl) (wp_call (vs := [_, _]) hF rfl rfl rfl rfl cf37 (flies_any st _ L (rm) _ F _ (hS.rdRo 1 rfl) (by first | omega | (simp; done)) (by first | omega | (simp; done)) (hS.rdRo 2 rfl) (by first | omega | (simp; done))) ?_)
  clear hF; rintro _ w ⟨rfl, hS1⟩ a hF
  replace hS := hS.callB hS1 rfl; clear hS1
  refine seq_yl hF (wn_none rfl) rfl rfl (yl_un hF rfl rfl (fun _ => run_not)) ?_
  clear hF; intro a hF
  refine seq_yl hF (wn_none rfl) rfl rfl (yl_move hF rfl rfl) ?_
  clear hF; intro a hF
  refine fr_split hF (fun hc318 hF => ?_) (fun hc318 hF => ?_)
  · first | (replace hc318 := of_decide_eq_true hc318) | (replace hc318 := of_decide_eq_false (bnot_t hc318)) | (replace hc318 := bnot_t hc318) | skip
    try (have hc318x := hc318; simp only [okS, okI, okW, okP] at hc318x)
    refine seq_skip hF (wn_f hF rfl rfl rfl rfl) rfl rfl ?_
    clear hF; intro a hF
    refine seq_skip hF (wn_f hF rfl rfl rfl rfl) rfl rfl ?_
    clear hF; intro a hF
    refine seq_skip hF (wn_f hF rfl rfl rfl rfl) rfl rfl ?_
    clear hF; intro a hF
    refine seq_yl hF (wn_none rfl) rfl rfl (yl_pick (u := _) (v := undef) hF rfl rfl (fun _ => rfl) (fun h => by cases h)) ?_
    clear hF; intro a hF
    refine seq_yl hF (wn_none rfl) rfl rfl (yl_move hF rfl rfl) ?_
    clear hF; intro a hF
    refine seq_skip hF (wn_f hF rfl rfl rfl rfl) rfl rfl ?_
    clear hF; intro a hF
    refine seq_skip hF (wn_f hF rfl rfl rfl rfl) rfl rfl ?_
    clear hF; intro a hF
    refine seq_skip hF (wn_f hF rfl rfl rfl rfl) rfl rfl ?_
    clear hF; intro a hF
    refine seq_skip hF (wn_f hF rfl rfl rfl rfl) rfl rfl ?_
    clear hF; intro a hF
    refine seq_skip hF (wn_f hF rfl rfl rfl rfl) rfl rfl ?_
    clear hF; intro a hF
    refine seq_skip hF (wn_f hF rfl rfl rfl rfl) rfl rfl ?_
    clear hF; intro a hF
    refine seq_yl hF (wn_none rfl) rfl rfl (yl_pick (u := _) (v := undef) hF rfl rfl (fun _ => rfl) (fun h => by cases h)) ?_
    clear hF; intro a hF
    refine wpList_nil ?_
    refine then_n ?_
    refine c_cond_t hF rfl ?_
    refine c_seq ?_
    refine c_region ?_
    refine seq_yl hF (wn_none rfl) rfl rfl (yl_assign hF rfl rfl) ?_
    clear hF; intro a hF
    refine wpList_nil ?_
    refine then_n ?_
    refine wp_ret ?_
    refine then_r ?_
    refine ret_t hF rfl rfl ?_
    exact ⟨_, rfl, _, rfl, fI (perm_bad (by rintro ⟨h8, h9⟩; have h7 := okD_I h8.1; first | exact absurd h8 (by assumption) | omega)), (hS.sub [] (by decide) (by first | rfl | simp) (by simp))⟩
  · first | (replace hc318 := of_decide_eq_false hc318) | (replace hc318 := of_decide_eq_true (bnot_f hc318)) | (replace hc318 := bnot_f hc318) | skip
    try (have hc318x := hc318; simp only [okS, okI, okW, okP] at hc318x)
    refine seq_yl hF (wn_t hF rfl rfl rfl rfl) rfl rfl (yl_move hF rfl rfl) ?_
    clear hF; intro a hF
    refine seq_wp (wn_t hF rfl rfl rfl rfl) (wp_call (vs := [_]) hF rfl rfl rfl rfl cf44 (imValid2_any im _) ?_)
    clear hF; rintro _ w ⟨rfl, hS1⟩ a hF
    replace hS := hS.callB hS1 rfl; clear hS1
    refine seq_yl hF (wn_t hF rfl rfl rfl rfl) rfl rfl (yl_un hF rfl rfl (fun _ => run_not)) ?_
    clear hF; intro a hF
    refine seq_yl hF (wn_none rfl) rfl rfl (yl_pick (u := _) (v := undef) hF rfl rfl (fun h => by cases h) (fun _ => rfl)) ?_
    clear hF; intro a hF
    refine seq_yl hF (wn_none rfl) rfl rfl (yl_move hF rfl rfl) ?_
    clear hF; intro a hF
    refine fr_split hF (fun hc319 hF => ?_) (fun hc319 hF => ?_)
    · first | (replace hc319 := of_decide_eq_true hc319) | (replace hc319 := of_decide_eq_false (bnot_t hc319)) | (replace hc319 := bnot_t hc319) | skip
      try (have hc319x := hc319; simp only [okS, okI, okW, okP] at hc319x)
      refine seq_skip hF (wn_f hF rfl rfl rfl rfl) rfl rfl ?_
      clear hF; intro a hF
      refine seq_skip hF (wn_f hF rfl rfl rfl rfl) rfl rfl ?_
      clear hF; intro a hF
      refine seq_skip hF (wn_f hF rfl rfl rfl rfl) rfl rfl ?_
      clear hF; intro a hF
      refine seq_skip hF (wn_f hF rfl rfl rfl rfl) rfl rfl ?_
      clear hF; intro a hF
      refine seq_skip hF (wn_f hF rfl rfl rfl rfl) rfl rfl ?_
      clear hF; intro a hF
      refine seq_skip hF (wn_f hF rfl rfl rfl rfl) rfl rfl ?_
      clear hF; intro a hF
      refine seq_yl hF (wn_none rfl) rfl rfl (yl_pick (u := _) (v := undef) hF rfl rfl (fun _ => rfl) (fun h => by cases h)) ?_
      clear hF; intro a hF
      refine wpList_nil ?_
      refine then_n ?_
      refine c_cond_t hF rfl ?_
      refine c_seq ?_
      refine c_region ?_
      refine seq_yl hF (wn_none rfl) rfl rfl (yl_assign hF rfl rfl) ?_
      clear hF; intro a hF
      refine wpList_nil ?_
      refine then_n ?_
      refine wp_ret ?_
      refine then_r ?_
      refine ret_t hF rfl rfl ?_
      exact ⟨_, rfl, _, rfl, fI (perm_bad (by rintro ⟨h8, h9⟩; have h7 := okD_I h8.1; first | exact absurd h8 (by assumption) | omega)), (hS.sub [] (by decide) (by first | rfl | simp) (by simp))⟩
    · first | (replace hc319 := of_decide_eq_false hc319) | (replace hc319 := of_decide_eq_true (bnot_f hc319)) | (replace hc319 := bnot_f hc319) | skip
      try (have hc319x := hc319; simp only [okS, okI, okW, okP] at hc319x)
      refine seq_yl hF (wn_t hF rfl rfl rfl rfl) rfl rfl (yl_move hF rfl rfl) ?_
      clear hF; intro a hF
      refine seq_yl hF (wn_t hF rfl rfl rfl rfl) rfl rfl (yl_len hF rfl rfl (fun _ => run_lenStr Try.underlying9)) ?_
      clear hF; intro a hF
      refine seq_yl hF (wn_t hF rfl rfl rfl rfl) rfl rfl (yl_fieldAddr hF rfl rfl (fun w => by kernel_rfl : ∀ w, (Instr.fieldAt 24 (.pointer (some ⟨g317, 0, none⟩)) 0).run Try.prog w = .ok (.pointer (some ⟨g317, 0, none⟩)) w)) ?_
      clear hF; intro a hF
      refine seq_yl hF (wn_t hF rfl rfl rfl rfl) rfl rfl (yl_load (fun _ h => h ▸ hS) hF rfl rfl 0 rfl ag9 rfl) ?_
      clear hF; intro a hF
      refine seq_yl hF (wn_t hF rfl rfl rfl rfl) rfl rfl (yl_len hF rfl rfl (fun _ => run_lenStr Try.underlying9)) ?_
      clear hF; intro a hF
      refine seq_yl hF (wn_t hF rfl rfl rfl rfl) rfl rfl (yl_bin hF rfl rfl rfl rfl (fun _ => run_neq)) ?_
      clear hF; intro a hF
      refine seq_yl hF (wn_none rfl) rfl rfl (yl_pick (u := _) (v := undef) hF rfl rfl (fun h => by cases h) (fun _ => rfl)) ?_
      clear hF; intro a hF
      refine wpList_nil ?_
      refine then_n ?_
      refine c_cond hF rfl (fun hc320 => ?_) (fun hc320 => ?_)
      · first | (replace hc320 := of_decide_eq_true hc320) | (replace hc320 := of_decide_eq_false (bnot_t hc320)) | (replace hc320 := bnot_t hc320) | skip
        try (have hc320x := hc320; simp only [okS, okI, okW, okP] at hc320x)
        refine c_seq ?_
        refine c_region ?_
        refine seq_yl hF (wn_none rfl) rfl rfl (yl_assign hF rfl rfl) ?_
        clear hF; intro a hF
        refine wpList_nil ?_
        refine then_n ?_
        refine wp_ret ?_
        refine then_r ?_
        refine ret_t hF rfl rfl ?_
        exact ⟨_, rfl, _, rfl, fI (perm_bad (by rintro ⟨h8, h9⟩; have h7 := okD_I h8.1; first | exact absurd h8 (by assumption) | omega)), (hS.sub [] (by decide) (by first | rfl | simp) (by simp))⟩
      · first | (replace hc320 := of_decide_eq_false hc320) | (replace hc320 := of_decide_eq_true (bnot_f hc320)) | (replace hc320 := bnot_f hc320) | skip
        try (have hc320x := hc320; simp only [okS, okI, okW, okP] at hc320x)
        refine wp_skip ?_
        refine then_n ?_
        refine c_seq ?_
        refine c_seq ?_
        refine c_region ?_
        refine seq_yl hF (wn_none rfl) rfl rfl (yl_assign hF rfl rfl) ?_
        clear hF; intro a hF
        refine wpList_nil ?_
        refine then_n ?_
        refine wp_block ?_
        have hC : okC st L F rm := by assumption
        have hCi := okD_I hC.1
        have hez : (im.size : Int) = (st.size : Int) := by omega
        refine c_loop (fun m a w => ∃ (k : Nat), m = ((st.size : Int) / 8 - (k : Int)).toNat ∧ ((k : Int) ≤ (st.size : Int) / 8 ∧ (∀ s : Int, 0 ≤ s → s < (k : Int) → okV (versC st (L ++ F) s) (subs im (s * 8) ((s + 1) * 8)))) ∧ Fr 81 a [(1, .slice Afv (F).length cfv), (2, .string im), (3, .pointer (some ⟨g317, 0, none⟩)), (7, .int .i64 ((k : Nat) : Int))] ∧ Sat w0 w (.box g317 24 #[.string st, .slice Alv (L).length clv, .int .i64 (rm)] :: .ro 2 (.slice Alv (L).length clv) (L).length (cells enc59 (L)) :: .ro 2 (.slice Afv (F).length cfv) (F).length (cells enc59 (F)) :: [])) (((st.size : Int) / 8 - ((0 : Nat) : Int)).toNat) ?_ ?_
        · exact ⟨0, rfl, ⟨by omega, fun s h1 h2 => by omega⟩, hF.to [1, 2, 3, 7] rfl, (hS.sub [0, 1, 2] (by decide) (by first | rfl | simp) (by simp))⟩
        · clear hF hS; try clear hSS
          clear a w; rintro m a w ⟨k, rfl, hinv, hF, hS⟩
          obtain ⟨hk, hok⟩ := hinv
          refine c_seq ?_
          refine c_seq ?_
          refine c_region ?_
          refine seq_yl hF (wn_none rfl) rfl rfl (yl_move hF rfl rfl) ?_
          clear hF; intro a hF
          refine seq_yl hF (wn_none rfl) rfl rfl (yl_loadK (rs := [_, _, _]) (fun _ h => h ▸ hS) hF rfl rfl 0 rfl ag24 sz24 rfl rfl) ?_
          clear hF; intro a hF
          refine seq_wp (wn_none rfl) (wp_call (vs := [_]) hF rfl rfl rfl rfl cf27 (secs_any st _ _ _ (by omega)) ?_)
          clear hF; rintro _ w ⟨rfl, hS1⟩ a hF
          replace hS := hS.callB hS1 rfl; clear hS1
          refine seq_yl hF (wn_none rfl) rfl rfl (yl_bin hF rfl rfl rfl rfl (fun _ => run_lss)) ?_
          clear hF; intro a hF
          refine wpList_nil ?_
          refine then_n ?_
          refine c_cond hF rfl (fun hc321 => ?_) (fun hc321 => ?_)
          · first | (replace hc321 := of_decide_eq_true hc321) | (replace hc321 := of_decide_eq_false (bnot_t hc321)) | (replace hc321 := bnot_t hc321) | skip
            try (have hc321x := hc321; simp only [okS, okI, okW, okP] at hc321x)
            refine wp_skip ?_
            refine then_n ?_
            refine c_seq ?_
            refine wp_block ?_
            refine c_seq ?_
            refine c_region ?_
            refine seq_yl hF (wn_none rfl) rfl rfl (yl_move hF rfl rfl) ?_
            clear hF; intro a hF
            refine seq_yl hF (wn_none rfl) rfl rfl (yl_move hF rfl rfl) ?_
            clear hF; intro a hF
            refine seq_wp (wn_none rfl) (wp_call (vs := [_, _, _]) hF rfl rfl rfl rfl cf26 (imRead2_any im ((k : Nat) : Int) (1 : Int) _ (by omega)) ?_)
            clear hF; rintro _ w ⟨xs322, e323, rfl, hsp324, hS1⟩ a hF
            replace hS := hS.callB hS1 rfl; clear hS1
            have hsp324z := fun h9 : okS ((im).size : Int) ((k : Nat) : Int) (1 : Int) => subs_size (s := im) (i := ((k : Nat) : Int) * 8) (j := (((k : Nat) : Int) + (1 : Int)) * 8) (by unfold okS at h9; omega) (by unfold okS at h9; omega) (by unfold okS okI at h9; omega)
            obtain ⟨hk325, rfl, rfl⟩ := hsp324.resolve_right (fun h9 => h9.1 ((by rw [hez]; exact okS_k hC (by omega))))
            try (have hk325x := hk325; simp only [okS, okI, okW, okP] at hk325x)
            refine seq_yl hF (wn_none rfl) rfl rfl (yl_move hF rfl rfl) ?_
            clear hF; intro a hF
            refine seq_yl hF (wn_none rfl) rfl rfl (yl_extract hF rfl rfl rfl) ?_
            clear hF; intro a hF
            refine seq_yl hF (wn_none rfl) rfl rfl (yl_extract hF rfl rfl rfl) ?_
            clear hF; intro a hF
            refine seq_yl hF (wn_none rfl) rfl rfl (yl_assign hF rfl rfl) ?_
            clear hF; intro a hF
            refine seq_yl hF (wn_none rfl) rfl rfl (yl_assign hF rfl rfl) ?_
            clear hF; intro a hF
            refine wpList_nil ?_
            refine then_n ?_
            refine c_seq ?_
            refine c_region ?_
            refine seq_yl hF (wn_none rfl) rfl rfl (yl_loadK (rs := [_, _, _]) (fun _ h => h ▸ hS) hF rfl rfl 0 rfl ag24 sz24 rfl rfl) ?_
            clear hF; intro a hF
            refine seq_yl hF (wn_none rfl) rfl rfl (yl_move hF rfl rfl) ?_
            clear hF; intro a hF
            refine seq_yl hF (wn_none rfl) rfl rfl (yl_move hF rfl rfl) ?_
            clear hF; intro a hF
            refine seq_wp (wn_none rfl) (wp_call (vs := [_, _, _]) hF rfl rfl rfl rfl cf38 (cvers2_any st _ L (rm) _ F ((k : Nat) : Int) _ (hS.rdRo 1 rfl) (by first | omega | (simp; done)) (by first | omega | (simp; done)) (hS.rdRo 2 rfl) (by first | omega | (simp; done)) hC.1 (okS_k hC (by omega))) ?_)
            clear hF; rintro _ w ⟨v326, rfl, hS1⟩ a hF
            replace hS := hS.callB hS1 rfl; clear hS1
            obtain ⟨Av326, cv326, rfl⟩ := hS.form 0 rfl
            have hvn327 := versC_len st (L ++ F) ((k : Nat) : Int); simp only [List.length_append] at hvn327
            refine seq_yl hF (wn_none rfl) rfl rfl (yl_assign hF rfl rfl) ?_
            clear hF; intro a hF
            refine wpList_nil ?_
            refine then_n ?_
            refine c_seq ?_
            refine c_region ?_
            refine seq_yl hF (wn_none rfl) rfl rfl (yl_assign hF rfl rfl) ?_
            clear hF; intro a hF
            refine wpList_nil ?_
            refine then_n ?_
            refine c_seq ?_
            refine c_seq ?_
            refine c_region ?_
            refine seq_yl hF (wn_none rfl) rfl rfl (yl_assign hF rfl rfl) ?_
            clear hF; intro a hF
            refine wpList_nil ?_
            refine then_n ?_
            refine wp_block ?_
            refine c_loop (fun m a w => ∃ (j : Nat) (b : Bool), m = (versC st (L ++ F) (k : Int)).length - j ∧ (j ≤ (versC st (L ++ F) (k : Int)).length ∧ vC (versC st (L ++ F) (k : Int)) (subs im ((k : Int) * 8) (((k : Int) + 1) * 8)) j b) ∧ Fr 81 a [(1, .slice Afv (F).length cfv), (2, .string im), (3, .pointer (some ⟨g317, 0, none⟩)), (7, .int .i64 ((k : Nat) : Int)), (8, .string (subs im (((k : Nat) : Int) * 8) ((((k : Nat) : Int) + (1 : Int)) * 8))), (10, .slice Av326 ((versC st (L ++ F) ((k : Nat) : Int))).length cv326), (11, .bool b), (12, .int .i64 ((j : Nat) : Int))] ∧ Sat w0 w (.box g317 24 #[.string st, .slice Alv (L).length clv, .int .i64 (rm)] :: .ro 2 (.slice Alv (L).length clv) (L).length (cells enc59 (L)) :: .ro 2 (.slice Afv (F).length cfv) (F).length (cells enc59 (F)) :: .row 9 1 (.slice Av326 ((versC st (L ++ F) ((k : Nat) : Int))).length cv326) ((versC st (L ++ F) ((k : Nat) : Int))).length (cells encS ((versC st (L ++ F) ((k : Nat) : Int)))) :: [])) ((versC st (L ++ F) (k : Int)).length - 0) ?_ ?_
            · exact ⟨0, _, rfl, ⟨by omega, vC_start _ _⟩, hF.to [1, 2, 3, 7, 8, 10, 11, 12] rfl, (hS.sub [1, 2, 3, 0] (by decide) (by first | rfl | simp) (by simp))⟩
            · clear hF hS; try clear hSS
              clear a w; rintro m a w ⟨j, b, rfl, hinv, hF, hS⟩
              obtain ⟨hj, hvb⟩ := hinv
              refine c_seq ?_
              refine c_seq ?_
              refine c_region ?_
              refine seq_yl hF (wn_none rfl) rfl rfl (yl_move hF rfl rfl) ?_
              clear hF; intro a hF
              refine seq_yl hF (wn_none rfl) rfl rfl (yl_move hF rfl rfl) ?_
              clear hF; intro a hF
              refine seq_yl hF (wn_none rfl) rfl rfl (yl_len hF rfl rfl (fun _ => run_lenRd sl52 (hS.rdRow 3 rfl))) ?_
              clear hF; intro a hF
              refine seq_yl hF (wn_none rfl) rfl rfl (yl_bin hF rfl rfl rfl rfl (fun _ => run_lss)) ?_
              clear hF; intro a hF
              refine wpList_nil ?_
              refine then_n ?_
              refine c_cond hF rfl (fun hc328 => ?_) (fun hc328 => ?_)
              · first | (replace hc328 := of_decide_eq_true hc328) | (replace hc328 := of_decide_eq_false (bnot_t hc328)) | (replace hc328 := bnot_t hc328) | skip
                try (have hc328x := hc328; simp only [okS, okI, okW, okP] at hc328x)
                refine wp_skip ?_
                refine then_n ?_
                refine c_seq ?_
                refine wp_block ?_
                refine ha_startS hS [3] 28 (by kernel_rfl) ?_; clear hS; intro w hS
                have hSS := hS.sub [3] (by decide) rfl (by simp)
                refine ha_y 0 hF rfl rfl rfl (wn_none rfl) (.inr hSS) (yl_move hF rfl rfl) ?_
                clear hF; intro a hF
                refine ha_y 1 hF rfl rfl rfl (wn_none rfl) (.inr hSS) (yl_move hF rfl rfl) ?_
                clear hF; intro a hF
                refine fr_split hF (fun hc329 hF => ?_) (fun hc329 hF => ?_)
                · first | (replace hc329 := of_decide_eq_true hc329) | (replace hc329 := of_decide_eq_false (bnot_t hc329)) | (replace hc329 := bnot_t hc329) | skip
                  try (have hc329x := hc329; simp only [okS, okI, okW, okP] at hc329x)
                  refine ha_s 2 hF rfl rfl rfl (wn_f hF rfl rfl rfl rfl) (.inr hSS) ?_
                  clear hF; intro a hF
                  refine ha_s 3 hF rfl rfl rfl (wn_f hF rfl rfl rfl rfl) (.inr hSS) ?_
                  clear hF; intro a hF
                  refine ha_s 4 hF rfl rfl rfl (wn_f hF rfl rfl rfl rfl) (.inr hSS) ?_
                  clear hF; intro a hF
                  refine ha_s 5 hF rfl rfl rfl (wn_f hF rfl rfl rfl rfl) (.inr hSS) ?_
                  clear hF; intro a hF
                  refine ha_s 6 hF rfl rfl rfl (wn_f hF rfl rfl rfl rfl) (.inr hSS) ?_
                  clear hF; intro a hF
                  refine ha_s 7 hF rfl rfl rfl (wn_f hF rfl rfl rfl rfl) (.inr hSS) ?_
                  clear hF; intro a hF
                  refine ha_y 8 hF rfl rfl rfl (wn_none rfl) (.inr hSS) (yl_pick (u := _) (v := undef) hF rfl rfl (fun _ => rfl) (fun h => by cases h)) ?_
                  clear hF; intro a hF
                  refine ha_y 9 hF rfl rfl rfl (wn_none rfl) (.inr hSS) (yl_move hF rfl rfl) ?_
                  clear hF; intro a hF
                  refine ha_s 10 hF rfl rfl rfl (wn_f hF rfl rfl rfl rfl) (.inr hSS) ?_
                  clear hF; intro a hF
                  refine ha_s 11 hF rfl rfl rfl (wn_f hF rfl rfl rfl rfl) (.inr hSS) ?_
                  clear hF; intro a hF
                  refine ha_s 12 hF rfl rfl rfl (wn_f hF rfl rfl rfl rfl) (.inr hSS) ?_
                  clear hF; intro a hF
                  refine ha_s 13 hF rfl rfl rfl (wn_u hF rfl rfl rfl rfl) (.inr hSS) ?_
                  clear hF; intro a hF
                  refine ha_s 14 hF rfl rfl rfl (wn_u hF rfl rfl rfl rfl) (.inr hSS) ?_
                  clear hF; intro a hF
                  refine ha_s 15 hF rfl rfl rfl (wn_u hF rfl rfl rfl rfl) (.inr hSS) ?_
                  clear hF; intro a hF
                  refine ha_s 16 hF rfl rfl rfl (wn_u hF rfl rfl rfl rfl) (.inr hSS) ?_
                  clear hF; intro a hF
                  refine ha_s 17 hF rfl rfl rfl (wn_u hF rfl rfl rfl rfl) (.inr hSS) ?_
                  clear hF; intro a hF
                  refine ha_s 18 hF rfl rfl rfl (wn_u hF rfl rfl rfl rfl) (.inr hSS) ?_
                  clear hF; intro a hF
                  refine ha_s 19 hF rfl rfl rfl (wn_u hF rfl rfl rfl rfl) (.inr hSS) ?_
                  clear hF; intro a hF
                  refine ha_s 20 hF rfl rfl rfl (wn_u hF rfl rfl rfl rfl) (.inr hSS) ?_
                  clear hF; intro a hF
                  refine ha_s 21 hF rfl rfl rfl (wn_u hF rfl rfl rfl rfl) (.inr hSS) ?_
                  clear hF; intro a hF
                  refine ha_s 22 hF rfl rfl rfl (wn_u hF rfl rfl rfl rfl) (.inr hSS) ?_
                  clear hF; intro a hF
                  refine ha_s 23 hF rfl rfl rfl (wn_u hF rfl rfl rfl rfl) (.inr hSS) ?_
                  clear hF; intro a hF
                  refine ha_s 24 hF rfl rfl rfl (wn_u hF rfl rfl rfl rfl) (.inr hSS) ?_
                  clear hF; intro a hF
                  refine ha_s 25 hF rfl rfl rfl (wn_f hF rfl rfl rfl rfl) (.inr hSS) ?_
                  clear hF; intro a hF
                  refine ha_y 26 hF rfl rfl rfl (wn_none rfl) (.inr hSS) (yl_pick (u := _) (v := undef) hF rfl rfl (fun _ => rfl) (fun h => by cases h)) ?_
                  clear hF; intro a hF
                  refine ha_y 27 hF rfl rfl rfl (wn_none rfl) (.inr hSS) (yl_assign hF rfl rfl) ?_
                  clear hF; intro a hF
                  refine ha_done (by kernel_rfl) ?_ _
                  refine inb_n ?_
                  refine then_n ?_
                  refine c_region ?_
                  refine seq_yl hF (wn_none rfl) rfl rfl (yl_move hF rfl rfl) ?_
                  clear hF; intro a hF
                  refine seq_yl hF (wn_none rfl) rfl rfl (yl_bin hF rfl rfl rfl rfl (fun _ => run_inc (by omega))) ?_
                  clear hF; intro a hF
                  refine seq_yl hF (wn_none rfl) rfl rfl (yl_assign hF rfl rfl) ?_
                  clear hF; intro a hF
                  refine wpList_nil ?_
                  refine then_n ?_
                  exact ⟨_, (by omega), j + 1, _, rfl, ⟨by omega, by first | exact vC_old hvb (by assumption)⟩, hF.to [1, 2, 3, 7, 8, 10, 11, 12] rfl, (hS.sub [0, 1, 2, 3] (by decide) (by first | rfl | simp) (by simp))⟩
                · first | (replace hc329 := of_decide_eq_false hc329) | (replace hc329 := of_decide_eq_true (bnot_f hc329)) | (replace hc329 := bnot_f hc329) | skip
                  try (have hc329x := hc329; simp only [okS, okI, okW, okP] at hc329x)
                  refine ha_y 2 hF rfl rfl rfl (wn_t hF rfl rfl rfl rfl) (.inr hSS) (yl_move hF rfl rfl) ?_
                  clear hF; intro a hF
                  refine ha_y 3 hF rfl rfl rfl (wn_t hF rfl rfl rfl rfl) (.inr hSS) (yl_move hF rfl rfl) ?_
                  clear hF; intro a hF
                  refine ha_y 4 hF rfl rfl rfl (wn_t hF rfl rfl rfl rfl) (.inr hSS) (yl_move hF rfl rfl) ?_
                  clear hF; intro a hF
                  have hlt_hx330 : j < ((versC st (L ++ F) ((k : Nat) : Int))).length := by first | omega | (simp; done) | (simp; omega)
                  obtain ⟨ad331, rfl⟩ := rd_some (hS.rdRow 3 rfl) hlt_hx330
                  obtain ⟨x330, hx330⟩ := get_some hlt_hx330
                  have hb_x330 := (versC_all hC (okS_k hC (by omega))) x330 (List.mem_of_getElem? hx330)
                  refine ha_y 5 hF rfl rfl rfl (wn_t hF rfl rfl rfl rfl) (.inr hSS) (yl_indexAddr hF rfl rfl rfl (fun _ => run_idx' sl52 sz9 (hS.rdRow 3 rfl) hlt_hx330)) ?_
                  clear hF; intro a hF
                  refine ha_l 6 hF rfl rfl rfl (wn_t hF rfl rfl rfl rfl) hSS (yl_loadAt hF rfl rfl ag9 (fun _ h => rd_cell0 (enc := encS) (Sat.rdRow h 0 rfl) encS_len hx330 rfl rfl)) ?_
                  clear hF; intro a hF
                  refine ha_y 7 hF rfl rfl rfl (wn_t hF rfl rfl rfl rfl) (.inr hSS) (yl_bin hF rfl rfl rfl rfl (fun _ => run_str_eql)) ?_
                  clear hF; intro a hF
                  refine ha_y 8 hF rfl rfl rfl (wn_none rfl) (.inr hSS) (yl_pick (u := _) (v := undef) hF rfl rfl (fun h => by cases h) (fun _ => rfl)) ?_
                  clear hF; intro a hF
                  refine ha_y 9 hF rfl rfl rfl (wn_none rfl) (.inr hSS) (yl_move hF rfl rfl) ?_
                  clear hF; intro a hF
                  refine fr_split hF (fun hc332 hF => ?_) (fun hc332 hF => ?_)
                  · first | (replace hc332 := of_decide_eq_true hc332) | (replace hc332 := of_decide_eq_false (bnot_t hc332)) | (replace hc332 := bnot_t hc332) | skip
                    try (have hc332x := hc332; simp only [okS, okI, okW, okP] at hc332x)
                    refine ha_s 10 hF rfl rfl rfl (wn_f hF rfl rfl rfl rfl) (.inr hSS) ?_
                    clear hF; intro a hF
                    refine ha_s 11 hF rfl rfl rfl (wn_f hF rfl rfl rfl rfl) (.inr hSS) ?_
                    clear hF; intro a hF
                    refine ha_s 12 hF rfl rfl rfl (wn_f hF rfl rfl rfl rfl) (.inr hSS) ?_
                    clear hF; intro a hF
                    refine ha_s 13 hF rfl rfl rfl (wn_u hF rfl rfl rfl rfl) (.inr hSS) ?_
                    clear hF; intro a hF
                    refine ha_s 14 hF rfl rfl rfl (wn_u hF rfl rfl rfl rfl) (.inr hSS) ?_
                    clear hF; intro a hF
                    refine ha_s 15 hF rfl rfl rfl (wn_u hF rfl rfl rfl rfl) (.inr hSS) ?_
                    clear hF; intro a hF
                    refine ha_s 16 hF rfl rfl rfl (wn_u hF rfl rfl rfl rfl) (.inr hSS) ?_
                    clear hF; intro a hF
                    refine ha_s 17 hF rfl rfl rfl (wn_u hF rfl rfl rfl rfl) (.inr hSS) ?_
                    clear hF; intro a hF
                    refine ha_s 18 hF rfl rfl rfl (wn_u hF rfl rfl rfl rfl) (.inr hSS) ?_
                    clear hF; intro a hF
                    refine ha_s 19 hF rfl rfl rfl (wn_u hF rfl rfl rfl rfl) (.inr hSS) ?_
                    clear hF; intro a hF
                    refine ha_s 20 hF rfl rfl rfl (wn_u hF rfl rfl rfl rfl) (.inr hSS) ?_
                    clear hF; intro a hF
                    refine ha_s 21 hF rfl rfl rfl (wn_u hF rfl rfl rfl rfl) (.inr hSS) ?_
                    clear hF; intro a hF
                    refine ha_s 22 hF rfl rfl rfl (wn_u hF rfl rfl rfl rfl) (.inr hSS) ?_
                    clear hF; intro a hF
                    refine ha_s 23 hF rfl rfl rfl (wn_u hF rfl rfl rfl rfl) (.inr hSS) ?_
                    clear hF; intro a hF
                    refine ha_s 24 hF rfl rfl rfl (wn_u hF rfl rfl rfl rfl) (.inr hSS) ?_
                    clear hF; intro a hF
                    refine ha_s 25 hF rfl rfl rfl (wn_f hF rfl rfl rfl rfl) (.inr hSS) ?_
                    clear hF; intro a hF
                    refine ha_y 26 hF rfl rfl rfl (wn_none rfl) (.inr hSS) (yl_pick (u := _) (v := undef) hF rfl rfl (fun _ => rfl) (fun h => by cases h)) ?_
                    clear hF; intro a hF
                    refine ha_y 27 hF rfl rfl rfl (wn_none rfl) (.inr hSS) (yl_assign hF rfl rfl) ?_
                    clear hF; intro a hF
                    refine ha_done (by kernel_rfl) ?_ _
                    refine inb_n ?_
                    refine then_n ?_
                    refine c_region ?_
                    refine seq_yl hF (wn_none rfl) rfl rfl (yl_move hF rfl rfl) ?_
                    clear hF; intro a hF
                    refine seq_yl hF (wn_none rfl) rfl rfl (yl_bin hF rfl rfl rfl rfl (fun _ => run_inc (by omega))) ?_
                    clear hF; intro a hF
                    refine seq_yl hF (wn_none rfl) rfl rfl (yl_assign hF rfl rfl) ?_
                    clear hF; intro a hF
                    refine wpList_nil ?_
                    refine then_n ?_
                    exact ⟨_, (by omega), j + 1, _, rfl, ⟨by omega, by first | exact vC_old hvb (by assumption) | exact vC_hit hx330 (by assumption) | exact vC_zero hvb (by assumption) hx330 (by assumption) (by omega)⟩, hF.to [1, 2, 3, 7, 8, 10, 11, 12] rfl, (hS.sub [0, 1, 2, 3] (by decide) (by first | rfl | simp) (by simp))⟩
                  · first | (replace hc332 := of_decide_eq_false hc332) | (replace hc332 := of_decide_eq_true (bnot_f hc332)) | (replace hc332 := bnot_f hc332) | skip
                    try (have hc332x := hc332; simp only [okS, okI, okW, okP] at hc332x)
                    refine ha_y 10 hF rfl rfl rfl (wn_t hF rfl rfl rfl rfl) (.inr hSS) (yl_move hF rfl rfl) ?_
                    clear hF; intro a hF
                    refine ha_y 11 hF rfl rfl rfl (wn_t hF rfl rfl rfl rfl) (.inr hSS) (yl_bin hF rfl rfl rfl rfl (fun _ => run_geq)) ?_
                    clear hF; intro a hF
                    refine ha_y 12 hF rfl rfl rfl (wn_t hF rfl rfl rfl rfl) (.inr hSS) (yl_move hF rfl rfl) ?_
                    clear hF; intro a hF
                    refine fr_split hF (fun hc333 hF => ?_) (fun hc333 hF => ?_)
                    · first | (replace hc333 := of_decide_eq_true hc333) | (replace hc333 := of_decide_eq_false (bnot_t hc333)) | (replace hc333 := bnot_t hc333) | skip
                      try (have hc333x := hc333; simp only [okS, okI, okW, okP] at hc333x)
                      refine ha_y 13 hF rfl rfl rfl (wn_t hF rfl rfl rfl rfl) (.inr hSS) (yl_move hF rfl rfl) ?_
                      clear hF; intro a hF
                      refine ha_y 14 hF rfl rfl rfl (wn_t hF rfl rfl rfl rfl) (.inr hSS) (yl_move hF rfl rfl) ?_
                      clear hF; intro a hF
                      refine ha_y 15 hF rfl rfl rfl (wn_t hF rfl rfl rfl rfl) (.inr hSS) (yl_move hF rfl rfl) ?_
                      clear hF; intro a hF
                      refine ha_y 16 hF rfl rfl rfl (wn_t hF rfl rfl rfl rfl) (.inr hSS) (yl_indexAddr hF rfl rfl rfl (fun _ => run_idx' sl52 sz9 (hS.rdRow 3 rfl) hlt_hx330)) ?_
                      clear hF; intro a hF
                      refine ha_y 18 hF rfl rfl rfl (wn_t hF rfl rfl rfl rfl) (.inr hSS) (yl_move hF rfl rfl) ?_
                      clear hF; intro a hF
                      refine ha_y 19 hF rfl rfl rfl (wn_t hF rfl rfl rfl rfl) (.inr hSS) (yl_move hF rfl rfl) ?_
                      clear hF; intro a hF
                      refine ha_y 20 hF rfl rfl rfl (wn_t hF rfl rfl rfl rfl) (.inr hSS) (yl_bin hF rfl rfl rfl rfl (fun _ => run_dec (c := 1) (by omega) (by omega))) ?_
                      clear hF; intro a hF
                      have hlt_hx334 : (j - 1) < ((versC st (L ++ F) ((k : Nat) : Int))).length := by first | omega | (simp; done) | (simp; omega)
                      obtain ⟨x334, hx334⟩ := get_some hlt_hx334
                      have hb_x334 := (versC_all hC (okS_k hC (by omega))) x334 (List.mem_of_getElem? hx334)
                      refine ha_y 21 hF rfl rfl rfl (wn_t hF rfl rfl rfl rfl) (.inr hSS) (yl_indexAddr hF rfl rfl rfl (fun _ => run_idx' sl52 sz9 (hS.rdRow 3 rfl) hlt_hx334)) ?_
                      clear hF; intro a hF
                      refine ha_l 17 hF rfl rfl rfl (wn_t hF rfl rfl rfl rfl) hSS (yl_loadAt hF rfl rfl ag9 (fun _ h => rd_cell0 (enc := encS) (Sat.rdRow h 0 rfl) encS_len hx330 rfl rfl)) ?_
                      clear hF; intro a hF
                      refine ha_l 22 hF rfl rfl rfl (wn_t hF rfl rfl rfl rfl) hSS (yl_loadAt hF rfl rfl ag9 (fun _ h => rd_cell0 (enc := encS) (Sat.rdRow h 0 rfl) encS_len hx334 rfl rfl)) ?_
                      clear hF; intro a hF
                      refine ha_one 23 (by kernel_rfl) rfl (wn_t hF rfl rfl rfl rfl) (wp_call (vs := [_, _]) hF rfl rfl rfl rfl cf33 (torn2_any x330 x334 _ (by omega) (by omega)) ?_)
                      clear hF; rintro _ w ⟨rfl, hS1⟩ a hF
                      replace hS := hS.callB hS1 rfl; clear hS1
                      have htz335 := torn_size (a := x330) (b := x334) (by omega) (by omega)
                      replace hSS := hS.sub [3] (by decide) rfl (by simp)
                      refine ⟨.inr hSS, ?_⟩
                      refine ha_y 24 hF rfl rfl rfl (wn_t hF rfl rfl rfl rfl) (.inr hSS) (yl_bin hF rfl rfl rfl rfl (fun _ => run_str_eql)) ?_
                      clear hF; intro a hF
                      refine ha_y 25 hF rfl rfl rfl (wn_t hF rfl rfl rfl rfl) (.inr hSS) (yl_pick (u := _) (v := undef) hF rfl rfl (fun _ => rfl) (fun h => by cases h)) ?_
                      clear hF; intro a hF
                      refine ha_y 26 hF rfl rfl rfl (wn_none rfl) (.inr hSS) (yl_pick (u := _) (v := undef) hF rfl rfl (fun h => by cases h) (fun _ => rfl)) ?_
                      clear hF; intro a hF
                      refine ha_y 27 hF rfl rfl rfl (wn_none rfl) (.inr hSS) (yl_assign hF rfl rfl) ?_
                      clear hF; intro a hF
                      refine ha_done (by kernel_rfl) ?_ _
                      refine inb_n ?_
                      refine then_n ?_
                      refine c_region ?_
                      refine seq_yl hF (wn_none rfl) rfl rfl (yl_move hF rfl rfl) ?_
                      clear hF; intro a hF
                      refine seq_yl hF (wn_none rfl) rfl rfl (yl_bin hF rfl rfl rfl rfl (fun _ => run_inc (by omega))) ?_
                      clear hF; intro a hF
                      refine seq_yl hF (wn_none rfl) rfl rfl (yl_assign hF rfl rfl) ?_
                      clear hF; intro a hF
                      refine wpList_nil ?_
                      refine then_n ?_
                      exact ⟨_, (by omega), j + 1, _, rfl, ⟨by omega, by first | exact vC_old hvb (by assumption) | exact vC_hit hx330 (by assumption) | exact vC_zero hvb (by assumption) hx330 (by assumption) (by omega) | exact vC_step hvb (by assumption) hx330 (by assumption) (by omega) hx334⟩, hF.to [1, 2, 3, 7, 8, 10, 11, 12] rfl, (hS.sub [0, 1, 2, 3] (by decide) (by first | rfl | simp) (by simp))⟩
                    · first | (replace hc333 := of_decide_eq_false hc333) | (replace hc333 := of_decide_eq_true (bnot_f hc333)) | (replace hc333 := bnot_f hc333) | skip
                      try (have hc333x := hc333; simp only [okS, okI, okW, okP] at hc333x)
                      refine ha_s 13 hF rfl rfl rfl (wn_f hF rfl rfl rfl rfl) (.inr hSS) ?_
                      clear hF; intro a hF
                      refine ha_s 14 hF rfl rfl rfl (wn_f hF rfl rfl rfl rfl) (.inr hSS) ?_
                      clear hF; intro a hF
                      refine ha_s 15 hF rfl rfl rfl (wn_f hF rfl rfl rfl rfl) (.inr hSS) ?_
                      clear hF; intro a hF
                      refine ha_s 16 hF rfl rfl rfl (wn_f hF rfl rfl rfl rfl) (.inr hSS) ?_
                      clear hF; intro a hF
                      refine ha_s 17 hF rfl rfl rfl (wn_f hF rfl rfl rfl rfl) (.inr hSS) ?_
                      clear hF; intro a hF
                      refine ha_s 18 hF rfl rfl rfl (wn_f hF rfl rfl rfl rfl) (.inr hSS) ?_
                      clear hF; intro a hF
                      refine ha_s 19 hF rfl rfl rfl (wn_f hF rfl rfl rfl rfl) (.inr hSS) ?_
                      clear hF; intro a hF
                      refine ha_s 20 hF rfl rfl rfl (wn_f hF rfl rfl rfl rfl) (.inr hSS) ?_
                      clear hF; intro a hF
                      refine ha_s 21 hF rfl rfl rfl (wn_f hF rfl rfl rfl rfl) (.inr hSS) ?_
                      clear hF; intro a hF
                      refine ha_s 22 hF rfl rfl rfl (wn_f hF rfl rfl rfl rfl) (.inr hSS) ?_
                      clear hF; intro a hF
                      refine ha_s 23 hF rfl rfl rfl (wn_f hF rfl rfl rfl rfl) (.inr hSS) ?_
                      clear hF; intro a hF
                      refine ha_s 24 hF rfl rfl rfl (wn_f hF rfl rfl rfl rfl) (.inr hSS) ?_
                      clear hF; intro a hF
                      refine ha_y 25 hF rfl rfl rfl (wn_t hF rfl rfl rfl rfl) (.inr hSS) (yl_pick (u := _) (v := undef) hF rfl rfl (fun h => by cases h) (fun _ => rfl)) ?_
                      clear hF; intro a hF
                      refine ha_y 26 hF rfl rfl rfl (wn_none rfl) (.inr hSS) (yl_pick (u := _) (v := undef) hF rfl rfl (fun h => by cases h) (fun _ => rfl)) ?_
                      clear hF; intro a hF
                      refine ha_y 27 hF rfl rfl rfl (wn_none rfl) (.inr hSS) (yl_assign hF rfl rfl) ?_
                      clear hF; intro a hF
                      refine ha_done (by kernel_rfl) ?_ _
                      refine inb_n ?_
                      refine then_n ?_
                      refine c_region ?_
                      refine seq_yl hF (wn_none rfl) rfl rfl (yl_move hF rfl rfl) ?_
                      clear hF; intro a hF
                      refine seq_yl hF (wn_none rfl) rfl rfl (yl_bin hF rfl rfl rfl rfl (fun _ => run_inc (by omega))) ?_
                      clear hF; intro a hF
                      refine seq_yl hF (wn_none rfl) rfl rfl (yl_assign hF rfl rfl) ?_
                      clear hF; intro a hF
                      refine wpList_nil ?_
                      refine then_n ?_
                      exact ⟨_, (by omega), j + 1, _, rfl, ⟨by omega, by first | exact vC_old hvb (by assumption) | exact vC_hit hx330 (by assumption) | exact vC_zero hvb (by assumption) hx330 (by assumption) (by omega) | exact vC_step hvb (by assumption) hx330 (by assumption) (by omega) hx334⟩, hF.to [1, 2, 3, 7, 8, 10, 11, 12] rfl, (hS.sub [0, 1, 2, 3] (by decide) (by first | rfl | simp) (by simp))⟩
              · first | (replace hc328 := of_decide_eq_false hc328) | (replace hc328 := of_decide_eq_true (bnot_f hc328)) | (replace hc328 := bnot_f hc328) | skip
                try (have hc328x := hc328; simp only [okS, okI, okW, okP] at hc328x)
                refine wp_exit ?_
                refine then_x ?_
                refine then_x ?_
                refine inb_x ?_
                refine then_n ?_
                refine c_seq ?_
                refine c_region ?_
                refine seq_yl hF (wn_none rfl) rfl rfl (yl_move hF rfl rfl) ?_
                clear hF; intro a hF
                refine seq_yl hF (wn_none rfl) rfl rfl (yl_un hF rfl rfl (fun _ => run_not)) ?_
                clear hF; intro a hF
                refine wpList_nil ?_
                refine then_n ?_
                refine c_cond hF rfl (fun hc336 => ?_) (fun hc336 => ?_)
                · first | (replace hc336 := of_decide_eq_true hc336) | (replace hc336 := of_decide_eq_false (bnot_t hc336)) | (replace hc336 := bnot_t hc336) | skip
                  try (have hc336x := hc336; simp only [okS, okI, okW, okP] at hc336x)
                  refine c_seq ?_
                  refine c_region ?_
                  refine seq_yl hF (wn_none rfl) rfl rfl (yl_assign hF rfl rfl) ?_
                  clear hF; intro a hF
                  refine wpList_nil ?_
                  refine then_n ?_
                  refine wp_ret ?_
                  refine inb_r ?_
                  refine then_r ?_
                  refine then_r ?_
                  refine inb_r ?_
                  refine then_r ?_
                  refine ret_t hF rfl rfl ?_
                  exact ⟨_, rfl, _, rfl, fI (perm_no (s := (k : Int)) (by omega) (by omega) (noW_end (j := j) (hvb.2 (by simp_all)) (by omega))), (hS.sub [] (by decide) (by first | rfl | simp) (by simp))⟩
                · first | (replace hc336 := of_decide_eq_false hc336) | (replace hc336 := of_decide_eq_true (bnot_f hc336)) | (replace hc336 := bnot_f hc336) | skip
                  try (have hc336x := hc336; simp only [okS, okI, okW, okP] at hc336x)
                  refine wp_skip ?_
                  refine inb_n ?_
                  refine then_n ?_
                  refine c_region ?_
                  refine seq_yl hF (wn_none rfl) rfl rfl (yl_move hF rfl rfl) ?_
                  clear hF; intro a hF
                  refine seq_yl hF (wn_none rfl) rfl rfl (yl_bin hF rfl rfl rfl rfl (fun _ => run_inc (by omega))) ?_
                  clear hF; intro a hF
                  refine seq_yl hF (wn_none rfl) rfl rfl (yl_assign hF rfl rfl) ?_
                  clear hF; intro a hF
                  refine wpList_nil ?_
                  refine then_n ?_
                  exact ⟨_, (by omega), k + 1, rfl, ⟨by omega, ok_stepC hok (hvb.1 (by simp_all))⟩, hF.to [1, 2, 3, 7] rfl, (hS.sub [0, 1, 2] (by decide) (by first | rfl | simp) (by simp))⟩
          · first | (replace hc321 := of_decide_eq_false hc321) | (replace hc321 := of_decide_eq_true (bnot_f hc321)) | (replace hc321 := bnot_f hc321) | skip
            try (have hc321x := hc321; simp only [okS, okI, okW, okP] at hc321x)
            refine wp_exit ?_
            refine then_x ?_
            refine then_x ?_
            refine inb_x ?_
            refine then_n ?_
            refine c_seq ?_
            refine c_region ?_
            refine seq_yl hF (wn_none rfl) rfl rfl (yl_assign hF rfl rfl) ?_
            clear hF; intro a hF
            refine wpList_nil ?_
            refine then_n ?_
            refine wp_ret ?_
            refine ret_t hF rfl rfl ?_
            exact ⟨_, rfl, _, rfl, tI ⟨hC, hez, fun s h1 h2 => hok s h1 (by omega)⟩, (hS.sub [] (by decide) (by first | rfl | simp) (by simp))⟩

end Go.Proofs.Ytlhcpeolkkadbaa

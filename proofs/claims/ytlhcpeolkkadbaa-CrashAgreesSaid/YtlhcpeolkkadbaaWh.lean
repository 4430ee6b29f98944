/- walks, printed by wip/gen -/
import Derived.Test.YtlhcpeolkkadbaaWb
import Derived.Test.YtlhcpeolkkadbaaWf
import Derived.Test.YtlhcpeolkkadbaaWg
namespace Go.Proofs.Ytlhcpeolkkadbaa
open Go.RowKit
set_option linter.unusedVariables false
set_option linter.unusedSimpArgs false

set_option maxRecDepth 100000 in
theorem perm_any (st : ByteArray) (lv : Value) (L : List E59) (rm : Int) (fv : Value) (F : List E59) (im : ByteArray) (w0 : World) (hv : Rd w0 2 lv (L).length (cells enc59 (L))) (hz : (st.size : Int) ≤ 9223372036854775807) (hL : L.length ≤ 1000000) (hf : Rd w0 2 fv (F).length (cells enc59 (F))) (hF0 : F.length ≤ 1000000) (hi : (im.size : Int) ≤ 9223372036854775807) :
    Fn Try.prog 17 #[.agg #[.string st, lv, .int .i64 rm], fv, .string im] w0 (fun v w' => ∃ b : Bool, v = .bool b ∧ (b = true ↔ Perm st L F rm im) ∧ Sat w0 w' []) := by
  obtain ⟨Alv, clv, rfl⟩ := Rd.form hv
  obtain ⟨Afv, cfv, rfl⟩ := Rd.form hf
  refine c_enter (N := 61) (l := [_, _, _]) Try.func17 rfl rfl (fun a w hF hS => ?_)
  replace hS := hS.addRo hf
  replace hS := hS.addRo hv
  refine c_seq ?_
  refine c_region ?_
  refine seq_wp (wn_none rfl) (wp_box (cs := #[_, _, _]) hF hS rfl rfl rfl rfl rfl ?_)
  clear hF hS; intro a w g299 hF hS
  refine seq_yl hF (wn_none rfl) rfl rfl (yl_assign hF rfl rfl) ?_
  clear hF; intro a hF
  refine wpList_nil ?_
  refine then_n ?_
  refine c_seq ?_
  refine c_seq ?_
  refine c_region ?_
  refine seq_yl hF (wn_none rfl) rfl rfl (yl_loadK (rs := [_, _, _]) (fun _ h => h ▸ hS) hF rfl rfl 0 rfl ag24 sz24 rfl rfl) ?_
  clear hF; intro a hF
  refine seq_yl hF (wn_none rfl) rfl rfl (yl_move hF rfl rfl) ?_
  clear hF; intro a hF
  refine seq_wp (wn_none rfl) (wp_call (vs := [_, _]) hF rfl rfl rfl rfl cf34 (spec_any st _ L (rm) _ F _ (hS.rdRo 1 rfl) (by first | omega | (simp; done)) (by first | omega | (simp; done)) (hS.rdRo 2 rfl) (by first | omega | (simp; done))) ?_)
  clear hF; rintro _ w ⟨rfl, hS1⟩ a hF
  replace hS := hS.callB hS1 rfl; clear hS1
  refine seq_yl hF (wn_none rfl) rfl rfl (yl_un hF rfl rfl (fun _ => run_not)) ?_
  clear hF; intro a hF
  refine seq_yl hF (wn_none rfl) rfl rfl (yl_move hF rfl rfl) ?_
  clear hF; intro a hF
  refine fr_split hF (fun hc300 hF => ?_) (fun hc300 hF => ?_)
  · first | (replace hc300 := of_decide_eq_true hc300) | (replace hc300 := of_decide_eq_false (bnot_t hc300)) | (replace hc300 := bnot_t hc300) | skip
    try (have hc300x := hc300; simp only [okS, okI, okW, okP] at hc300x)
    refine seq_skip hF (wn_f hF rfl rfl rfl rfl) rfl rfl ?_
    clear hF; intro a hF
    refine seq_skip hF (wn_f hF rfl rfl rfl rfl) rfl rfl ?_
    clear hF; intro a hF
    refine seq_skip hF (wn_f hF rfl rfl rfl rfl) rfl rfl ?_
    clear hF; intro a hF
    refine seq_skip hF (wn_f hF rfl rfl rfl rfl) rfl rfl ?_
    clear hF; intro a hF
    refine seq_skip hF (wn_f hF rfl rfl rfl rfl) rfl rfl ?_
    clear hF; intro a hF
    refine seq_skip hF (wn_f hF rfl rfl rfl rfl) rfl rfl ?_
    clear hF; intro a hF
    refine seq_yl hF (wn_none rfl) rfl rfl (yl_pick (u := _) (v := undef) hF rfl rfl (fun _ => rfl) (fun h => by cases h)) ?_
    clear hF; intro a hF
    refine wpList_nil ?_
    refine then_n ?_
    refine c_cond_t hF rfl ?_
    refine c_seq ?_
    refine c_region ?_
    refine seq_yl hF (wn_none rfl) rfl rfl (yl_assign hF rfl rfl) ?_
    clear hF; intro a hF
    refine wpList_nil ?_
    refine then_n ?_
    refine wp_ret ?_
    refine then_r ?_
    refine ret_t hF rfl rfl ?_
    exact ⟨_, rfl, _, rfl, fI (perm_bad (by first | (rintro ⟨h8, h9⟩; first | exact absurd h8 (by assumption) | omega))), (hS.sub [] (by decide) (by first | rfl | simp) (by simp))⟩
  · first | (replace hc300 := of_decide_eq_false hc300) | (replace hc300 := of_decide_eq_true (bnot_f hc300)) | (replace hc300 := bnot_f hc300) | skip
    try (have hc300x := hc300; simp only [okS, okI, okW, okP] at hc300x)
    refine seq_yl hF (wn_t hF rfl rfl rfl rfl) rfl rfl (yl_move hF rfl rfl) ?_
    clear hF; intro a hF
    refine seq_yl hF (wn_t hF rfl rfl rfl rfl) rfl rfl (yl_len hF rfl rfl (fun _ => run_lenStr Try.underlying9)) ?_
    clear hF; intro a hF
    refine seq_yl hF (wn_t hF rfl rfl rfl rfl) rfl rfl (yl_fieldAddr hF rfl rfl (fun w => by kernel_rfl : ∀ w, (Instr.fieldAt 24 (.pointer (some ⟨g299, 0, none⟩)) 0).run Try.prog w = .ok (.pointer (some ⟨g299, 0, none⟩)) w)) ?_
    clear hF; intro a hF
    refine seq_yl hF (wn_t hF rfl rfl rfl rfl) rfl rfl (yl_load (fun _ h => h ▸ hS) hF rfl rfl 0 rfl ag9 rfl) ?_
    clear hF; intro a hF
    refine seq_yl hF (wn_t hF rfl rfl rfl rfl) rfl rfl (yl_len hF rfl rfl (fun _ => run_lenStr Try.underlying9)) ?_
    clear hF; intro a hF
    refine seq_yl hF (wn_t hF rfl rfl rfl rfl) rfl rfl (yl_bin hF rfl rfl rfl rfl (fun _ => run_neq)) ?_
    clear hF; intro a hF
    refine seq_yl hF (wn_none rfl) rfl rfl (yl_pick (u := _) (v := undef) hF rfl rfl (fun h => by cases h) (fun _ => rfl)) ?_
    clear hF; intro a hF
    refine wpList_nil ?_
    refine then_n ?_
    refine c_cond hF rfl (fun hc301 => ?_) (fun hc301 => ?_)
    · first | (replace hc301 := of_decide_eq_true hc301) | (replace hc301 := of_decide_eq_false (bnot_t hc301)) | (replace hc301 := bnot_t hc301) | skip
      try (have hc301x := hc301; simp only [okS, okI, okW, okP] at hc301x)
      refine c_seq ?_
      refine c_region ?_
      refine seq_yl hF (wn_none rfl) rfl rfl (yl_assign hF rfl rfl) ?_
      clear hF; intro a hF
      refine wpList_nil ?_
      refine then_n ?_
      refine wp_ret ?_
      refine then_r ?_
      refine ret_t hF rfl rfl ?_
      exact ⟨_, rfl, _, rfl, fI (perm_bad (by first | (rintro ⟨h8, h9⟩; first | exact absurd h8 (by assumption) | omega))), (hS.sub [] (by decide) (by first | rfl | simp) (by simp))⟩
    · first | (replace hc301 := of_decide_eq_false hc301) | (replace hc301 := of_decide_eq_true (bnot_f hc301)) | (replace hc301 := bnot_f hc301) | skip
      try (have hc301x := hc301; simp only [okS, okI, okW, okP] at hc301x)
      refine wp_skip ?_
      refine then_n ?_
      refine c_seq ?_
      refine c_seq ?_
      refine c_region ?_
      refine seq_yl hF (wn_none rfl) rfl rfl (yl_loadK (rs := [_, _, _]) (fun _ h => h ▸ hS) hF rfl rfl 0 rfl ag24 sz24 rfl rfl) ?_
      clear hF; intro a hF
      refine seq_wp (wn_none rfl) (wp_call (vs := [_]) hF rfl rfl rfl rfl cf35 (csecs_any st _ _ _ (by omega)) ?_)
      clear hF; rintro _ w ⟨rfl, hS1⟩ a hF
      replace hS := hS.callB hS1 rfl; clear hS1
      refine seq_yl hF (wn_none rfl) rfl rfl (yl_move hF rfl rfl) ?_
      clear hF; intro a hF
      refine wpList_nil ?_
      refine then_n ?_
      refine wp_block ?_
      have hC : okC st L F rm := by assumption
      have hCi := okD_I hC.1
      have hez : (im.size : Int) = (st.size : Int) := by omega
      refine c_loop (fun m a w => ∃ (k : Nat), m = ((st.size : Int) / 8 - (k : Int)).toNat ∧ ((k : Int) ≤ (st.size : Int) / 8 ∧ (∀ s : Int, 0 ≤ s → s < (k : Int) → okV (versC st (L ++ F) s) (subs im (s * 8) ((s + 1) * 8)))) ∧ Fr 61 a [(1, .slice Afv (F).length cfv), (2, .string im), (3, .pointer (some ⟨g299, 0, none⟩)), (26, .int .i64 ((((st).size : Int) / 8))), (27, .int .i64 ((k : Nat) : Int))] ∧ Sat w0 w (.box g299 24 #[.string st, .slice Alv (L).length clv, .int .i64 (rm)] :: .ro 2 (.slice Alv (L).length clv) (L).length (cells enc59 (L)) :: .ro 2 (.slice Afv (F).length cfv) (F).length (cells enc59 (F)) :: [])) (((st.size : Int) / 8 - ((0 : Nat) : Int)).toNat) ?_ ?_
      · exact ⟨0, rfl, ⟨by omega, fun s h1 h2 => by omega⟩, hF.to [1, 2, 3, 26, 27] rfl, (hS.sub [0, 1, 2] (by decide) (by first | rfl | simp) (by simp))⟩
      · clear hF hS; try clear hSS
        clear a w; rintro m a w ⟨k, rfl, hinv, hF, hS⟩
        obtain ⟨hk, hok⟩ := hinv
        refine c_seq ?_
        refine c_region ?_
        refine seq_yl hF (wn_none rfl) rfl rfl (yl_bin hF rfl rfl rfl rfl (fun _ => run_lss)) ?_
        clear hF; intro a hF
        refine wpList_nil ?_
        refine then_n ?_
        refine c_seq ?_
        refine c_cond hF rfl (fun hc302 => ?_) (fun hc302 => ?_)
        · first | (replace hc302 := of_decide_eq_true hc302) | (replace hc302 := of_decide_eq_false (bnot_t hc302)) | (replace hc302 := bnot_t hc302) | skip
          try (have hc302x := hc302; simp only [okS, okI, okW, okP] at hc302x)
          refine wp_skip ?_
          refine then_n ?_
          refine c_seq ?_
          refine wp_block ?_
          refine c_seq ?_
          refine c_region ?_
          refine seq_yl hF (wn_none rfl) rfl rfl (yl_move hF rfl rfl) ?_
          clear hF; intro a hF
          refine seq_yl hF (wn_none rfl) rfl rfl (yl_assign hF rfl rfl) ?_
          clear hF; intro a hF
          refine wpList_nil ?_
          refine then_n ?_
          refine c_seq ?_
          refine c_region ?_
          refine seq_yl hF (wn_none rfl) rfl rfl (yl_move hF rfl rfl) ?_
          clear hF; intro a hF
          refine seq_yl hF (wn_none rfl) rfl rfl (yl_move hF rfl rfl) ?_
          clear hF; intro a hF
          refine seq_wp (wn_none rfl) (wp_call (vs := [_, _, _]) hF rfl rfl rfl rfl cf42 (imRead_any im ((k : Nat) : Int) (1 : Int) _ (by omega)) ?_)
          clear hF; rintro _ w ⟨xs303, e304, rfl, hsp305, hS1⟩ a hF
          replace hS := hS.callB hS1 rfl; clear hS1
          have hsp305z := fun h9 : okS ((im).size : Int) ((k : Nat) : Int) (1 : Int) => subs_size (s := im) (i := ((k : Nat) : Int) * 8) (j := (((k : Nat) : Int) + (1 : Int)) * 8) (by unfold okS at h9; omega) (by unfold okS at h9; omega) (by unfold okS okI at h9; omega)
          obtain ⟨hk306, rfl, rfl⟩ := hsp305.resolve_right (fun h9 => h9.1 ((by rw [hez]; exact okS_k hC (by omega))))
          try (have hk306x := hk306; simp only [okS, okI, okW, okP] at hk306x)
          refine seq_yl hF (wn_none rfl) rfl rfl (yl_move hF rfl rfl) ?_
          clear hF; intro a hF
          refine seq_yl hF (wn_none rfl) rfl rfl (yl_extract hF rfl rfl rfl) ?_
          clear hF; intro a hF
          refine seq_yl hF (wn_none rfl) rfl rfl (yl_extract hF rfl rfl rfl) ?_
          clear hF; intro a hF
          refine seq_yl hF (wn_none rfl) rfl rfl (yl_assign hF rfl rfl) ?_
          clear hF; intro a hF
          refine seq_yl hF (wn_none rfl) rfl rfl (yl_assign hF rfl rfl) ?_
          clear hF; intro a hF
          refine wpList_nil ?_
          refine then_n ?_
          refine c_seq ?_
          refine c_region ?_
          refine seq_yl hF (wn_none rfl) rfl rfl (yl_loadK (rs := [_, _, _]) (fun _ h => h ▸ hS) hF rfl rfl 0 rfl ag24 sz24 rfl rfl) ?_
          clear hF; intro a hF
          refine seq_yl hF (wn_none rfl) rfl rfl (yl_move hF rfl rfl) ?_
          clear hF; intro a hF
          refine seq_yl hF (wn_none rfl) rfl rfl (yl_move hF rfl rfl) ?_
          clear hF; intro a hF
          refine seq_wp (wn_none rfl) (wp_call (vs := [_, _, _]) hF rfl rfl rfl rfl cf36 (cvers_any st _ L (rm) _ F ((k : Nat) : Int) _ (hS.rdRo 1 rfl) (by first | omega | (simp; done)) (by first | omega | (simp; done)) (hS.rdRo 2 rfl) (by first | omega | (simp; done)) hC.1 (okS_k hC (by omega))) ?_)
          clear hF; rintro _ w ⟨v307, rfl, hS1⟩ a hF
          replace hS := hS.callB hS1 rfl; clear hS1
          obtain ⟨Av307, cv307, rfl⟩ := hS.form 0 rfl
          have hvn308 := versC_len st (L ++ F) ((k : Nat) : Int); simp only [List.length_append] at hvn308
          refine seq_yl hF (wn_none rfl) rfl rfl (yl_assign hF rfl rfl) ?_
          clear hF; intro a hF
          refine wpList_nil ?_
          refine then_n ?_
          refine c_seq ?_
          refine c_region ?_
          refine seq_yl hF (wn_none rfl) rfl rfl (yl_move hF rfl rfl) ?_
          clear hF; intro a hF
          refine seq_yl hF (wn_none rfl) rfl rfl (yl_move hF rfl rfl) ?_
          clear hF; intro a hF
          refine seq_wp (wn_none rfl) (wp_call (vs := [_, _]) hF rfl rfl rfl rfl cf43 (scont_any _ (versC st (L ++ F) ((k : Nat) : Int)) (subs im (((k : Nat) : Int) * 8) ((((k : Nat) : Int) + (1 : Int)) * 8)) _ (hS.rdRow 0 rfl) (by first | omega | (simp; done))) ?_)
          clear hF; rintro _ w ⟨rfl, hS1⟩ a hF
          replace hS := hS.callB hS1 rfl; clear hS1
          refine seq_yl hF (wn_none rfl) rfl rfl (yl_assign hF rfl rfl) ?_
          clear hF; intro a hF
          refine wpList_nil ?_
          refine then_n ?_
          refine c_seq ?_
          refine c_seq ?_
          refine c_region ?_
          refine seq_yl hF (wn_none rfl) rfl rfl (yl_assign hF rfl rfl) ?_
          clear hF; intro a hF
          refine wpList_nil ?_
          refine then_n ?_
          refine wp_block ?_
          refine c_loop (fun m a w => ∃ (j : Nat) (b : Bool), m = (versC st (L ++ F) (k : Int)).length - j ∧ ((1 ≤ j ∧ j ≤ (versC st (L ++ F) (k : Int)).length) ∧ vB (versC st (L ++ F) (k : Int)) (subs im ((k : Int) * 8) (((k : Int) + 1) * 8)) j b) ∧ Fr 61 a [(1, .slice Afv (F).length cfv), (2, .string im), (3, .pointer (some ⟨g299, 0, none⟩)), (26, .int .i64 ((((st).size : Int) / 8))), (27, .int .i64 ((k : Nat) : Int)), (7, .int .i64 ((k : Nat) : Int)), (8, .string (subs im (((k : Nat) : Int) * 8) ((((k : Nat) : Int) + (1 : Int)) * 8))), (10, .slice Av307 ((versC st (L ++ F) ((k : Nat) : Int))).length cv307), (11, .bool b), (12, .int .i64 ((j : Nat) : Int))] ∧ Sat w0 w (.box g299 24 #[.string st, .slice Alv (L).length clv, .int .i64 (rm)] :: .ro 2 (.slice Alv (L).length clv) (L).length (cells enc59 (L)) :: .ro 2 (.slice Afv (F).length cfv) (F).length (cells enc59 (F)) :: .row 9 1 (.slice Av307 ((versC st (L ++ F) ((k : Nat) : Int))).length cv307) ((versC st (L ++ F) ((k : Nat) : Int))).length (cells encS ((versC st (L ++ F) ((k : Nat) : Int)))) :: [])) ((versC st (L ++ F) (k : Int)).length - 1) ?_ ?_
          · exact ⟨1, _, rfl, ⟨by omega, vB_start _ _⟩, hF.to [1, 2, 3, 26, 27, 7, 8, 10, 11, 12] rfl, (hS.sub [1, 2, 3, 0] (by decide) (by first | rfl | simp) (by simp))⟩
          · clear hF hS; try clear hSS
            clear a w; rintro m a w ⟨j, b, rfl, hinv, hF, hS⟩
            obtain ⟨hj, hvb⟩ := hinv
            refine c_seq ?_
            refine c_seq ?_
            refine c_region ?_
            refine seq_yl hF (wn_none rfl) rfl rfl (yl_move hF rfl rfl) ?_
            clear hF; intro a hF
            refine seq_yl hF (wn_none rfl) rfl rfl (yl_move hF rfl rfl) ?_
            clear hF; intro a hF
            refine seq_yl hF (wn_none rfl) rfl rfl (yl_len hF rfl rfl (fun _ => run_lenRd sl52 (hS.rdRow 3 rfl))) ?_
            clear hF; intro a hF
            refine seq_yl hF (wn_none rfl) rfl rfl (yl_bin hF rfl rfl rfl rfl (fun _ => run_lss)) ?_
            clear hF; intro a hF
            refine seq_yl hF (wn_none rfl) rfl rfl (yl_move hF rfl rfl) ?_
            clear hF; intro a hF
            refine fr_split hF (fun hc309 hF => ?_) (fun hc309 hF => ?_)
            · first | (replace hc309 := of_decide_eq_true hc309) | (replace hc309 := of_decide_eq_false (bnot_t hc309)) | (replace hc309 := bnot_t hc309) | skip
              try (have hc309x := hc309; simp only [okS, okI, okW, okP] at hc309x)
              refine seq_yl hF (wn_t hF rfl rfl rfl rfl) rfl rfl (yl_move hF rfl rfl) ?_
              clear hF; intro a hF
              refine seq_yl hF (wn_t hF rfl rfl rfl rfl) rfl rfl (yl_un hF rfl rfl (fun _ => run_not)) ?_
              clear hF; intro a hF
              refine seq_yl hF (wn_none rfl) rfl rfl (yl_pick (u := _) (v := undef) hF rfl rfl (fun _ => rfl) (fun h => by cases h)) ?_
              clear hF; intro a hF
              refine wpList_nil ?_
              refine then_n ?_
              refine c_cond hF rfl (fun hc310 => ?_) (fun hc310 => ?_)
              · first | (replace hc310 := of_decide_eq_true hc310) | (replace hc310 := of_decide_eq_false (bnot_t hc310)) | (replace hc310 := bnot_t hc310) | skip
                try (have hc310x := hc310; simp only [okS, okI, okW, okP] at hc310x)
                refine wp_skip ?_
                refine then_n ?_
                refine c_seq ?_
                refine wp_block ?_
                refine c_region ?_
                refine seq_yl hF (wn_none rfl) rfl rfl (yl_move hF rfl rfl) ?_
                clear hF; intro a hF
                refine seq_yl hF (wn_none rfl) rfl rfl (yl_move hF rfl rfl) ?_
                clear hF; intro a hF
                refine seq_wp (wn_none rfl) (wp_call (vs := [_, _]) hF rfl rfl rfl rfl cf39 (torn_any _ (versC st (L ++ F) ((k : Nat) : Int)) j _ (hS.rdRow 3 rfl) (versC_all hC (okS_k hC (by omega))) (by omega) (by omega)) ?_)
                clear hF; rintro _ w ⟨x311, y312, hta313, htb314, rfl, hS1⟩ a hF; replace hS := hS.callB hS1 rfl; clear hS1
                have hta313z := torn_size ((versC_all hC (okS_k hC (by omega))) x311 (List.mem_of_getElem? hta313)) ((versC_all hC (okS_k hC (by omega))) y312 (List.mem_of_getElem? htb314))
                refine seq_yl hF (wn_none rfl) rfl rfl (yl_move hF rfl rfl) ?_
                clear hF; intro a hF
                refine seq_yl hF (wn_none rfl) rfl rfl (yl_bin hF rfl rfl rfl rfl (fun _ => run_str_eql)) ?_
                clear hF; intro a hF
                refine seq_yl hF (wn_none rfl) rfl rfl (yl_assign hF rfl rfl) ?_
                clear hF; intro a hF
                refine wpList_nil ?_
                refine inb_n ?_
                refine then_n ?_
                refine c_region ?_
                refine seq_yl hF (wn_none rfl) rfl rfl (yl_move hF rfl rfl) ?_
                clear hF; intro a hF
                refine seq_yl hF (wn_none rfl) rfl rfl (yl_bin hF rfl rfl rfl rfl (fun _ => run_inc (by omega))) ?_
                clear hF; intro a hF
                refine seq_yl hF (wn_none rfl) rfl rfl (yl_assign hF rfl rfl) ?_
                clear hF; intro a hF
                refine wpList_nil ?_
                refine then_n ?_
                exact ⟨_, (by omega), j + 1, _, rfl, ⟨by omega, vB_step (by first | assumption | (subst_vars; assumption) | simp_all) hj.1 hta313 htb314⟩, hF.to [1, 2, 3, 26, 27, 7, 8, 10, 11, 12] rfl, (hS.sub [0, 1, 2, 3] (by decide) (by first | rfl | simp) (by simp))⟩
              · first | (replace hc310 := of_decide_eq_false hc310) | (replace hc310 := of_decide_eq_true (bnot_f hc310)) | (replace hc310 := bnot_f hc310) | skip
                try (have hc310x := hc310; simp only [okS, okI, okW, okP] at hc310x)
                refine wp_exit ?_
                refine then_x ?_
                refine then_x ?_
                refine inb_x ?_
                refine then_n ?_
                refine c_seq ?_
                refine c_region ?_
                refine seq_yl hF (wn_none rfl) rfl rfl (yl_move hF rfl rfl) ?_
                clear hF; intro a hF
                refine seq_yl hF (wn_none rfl) rfl rfl (yl_un hF rfl rfl (fun _ => run_not)) ?_
                clear hF; intro a hF
                refine wpList_nil ?_
                refine then_n ?_
                refine c_cond hF rfl (fun hc315 => ?_) (fun hc315 => ?_)
                · first | (replace hc315 := of_decide_eq_true hc315) | (replace hc315 := of_decide_eq_false (bnot_t hc315)) | (replace hc315 := bnot_t hc315) | skip
                  try (have hc315x := hc315; simp only [okS, okI, okW, okP] at hc315x)
                  refine c_seq ?_
                  refine c_region ?_
                  refine seq_yl hF (wn_none rfl) rfl rfl (yl_assign hF rfl rfl) ?_
                  clear hF; intro a hF
                  refine wpList_nil ?_
                  refine then_n ?_
                  refine wp_ret ?_
                  refine inb_r ?_
                  refine then_r ?_
                  refine then_r ?_
                  refine inb_r ?_
                  refine then_r ?_
                  refine ret_t hF rfl rfl ?_
                  exact ⟨_, rfl, _, rfl, fI (by first | exact perm_no (s := (k : Int)) (by omega) (by omega) (noV_end (j := j) (hvb.2 (by simp_all)) (by omega)) | (exfalso; simp_all; done)), (hS.sub [] (by decide) (by first | rfl | simp) (by simp))⟩
                · first | (replace hc315 := of_decide_eq_false hc315) | (replace hc315 := of_decide_eq_true (bnot_f hc315)) | (replace hc315 := bnot_f hc315) | skip
                  try (have hc315x := hc315; simp only [okS, okI, okW, okP] at hc315x)
                  refine wp_skip ?_
                  refine inb_n ?_
                  refine then_n ?_
                  refine c_region ?_
                  refine seq_yl hF (wn_none rfl) rfl rfl (yl_bin hF rfl rfl rfl rfl (fun _ => run_inc (by omega))) ?_
                  clear hF; intro a hF
                  refine seq_yl hF (wn_none rfl) rfl rfl (yl_move hF rfl rfl) ?_
                  clear hF; intro a hF
                  refine wpList_nil ?_
                  refine then_n ?_
                  exact ⟨_, (by omega), k + 1, rfl, ⟨by omega, ok_stepC hok (hvb.1 (by simp_all))⟩, hF.to [1, 2, 3, 26, 27] rfl, (hS.sub [0, 1, 2] (by decide) (by first | rfl | simp) (by simp))⟩
            · first | (replace hc309 := of_decide_eq_false hc309) | (replace hc309 := of_decide_eq_true (bnot_f hc309)) | (replace hc309 := bnot_f hc309) | skip
              try (have hc309x := hc309; simp only [okS, okI, okW, okP] at hc309x)
              refine seq_skip hF (wn_f hF rfl rfl rfl rfl) rfl rfl ?_
              clear hF; intro a hF
              refine seq_skip hF (wn_f hF rfl rfl rfl rfl) rfl rfl ?_
              clear hF; intro a hF
              refine seq_yl hF (wn_none rfl) rfl rfl (yl_pick (u := _) (v := undef) hF rfl rfl (fun h => by cases h) (fun _ => rfl)) ?_
              clear hF; intro a hF
              refine wpList_nil ?_
              refine then_n ?_
              refine c_cond_f hF rfl ?_
              refine wp_exit ?_
              refine then_x ?_
              refine then_x ?_
              refine inb_x ?_
              refine then_n ?_
              refine c_seq ?_
              refine c_region ?_
              refine seq_yl hF (wn_none rfl) rfl rfl (yl_move hF rfl rfl) ?_
              clear hF; intro a hF
              refine seq_yl hF (wn_none rfl) rfl rfl (yl_un hF rfl rfl (fun _ => run_not)) ?_
              clear hF; intro a hF
              refine wpList_nil ?_
              refine then_n ?_
              refine c_cond hF rfl (fun hc316 => ?_) (fun hc316 => ?_)
              · first | (replace hc316 := of_decide_eq_true hc316) | (replace hc316 := of_decide_eq_false (bnot_t hc316)) | (replace hc316 := bnot_t hc316) | skip
                try (have hc316x := hc316; simp only [okS, okI, okW, okP] at hc316x)
                refine c_seq ?_
                refine c_region ?_
                refine seq_yl hF (wn_none rfl) rfl rfl (yl_assign hF rfl rfl) ?_
                clear hF; intro a hF
                refine wpList_nil ?_
                refine then_n ?_
                refine wp_ret ?_
                refine inb_r ?_
                refine then_r ?_
                refine then_r ?_
                refine inb_r ?_
                refine then_r ?_
                refine ret_t hF rfl rfl ?_
                exact ⟨_, rfl, _, rfl, fI (by first | exact perm_no (s := (k : Int)) (by omega) (by omega) (noV_end (j := j) (hvb.2 (by simp_all)) (by omega)) | (exfalso; simp_all; done)), (hS.sub [] (by decide) (by first | rfl | simp) (by simp))⟩
              · first | (replace hc316 := of_decide_eq_false hc316) | (replace hc316 := of_decide_eq_true (bnot_f hc316)) | (replace hc316 := bnot_f hc316) | skip
                try (have hc316x := hc316; simp only [okS, okI, okW, okP] at hc316x)
                refine wp_skip ?_
                refine inb_n ?_
                refine then_n ?_
                refine c_region ?_
                refine seq_yl hF (wn_none rfl) rfl rfl (yl_bin hF rfl rfl rfl rfl (fun _ => run_inc (by omega))) ?_
                clear hF; intro a hF
                refine seq_yl hF (wn_none rfl) rfl rfl (yl_move hF rfl rfl) ?_
                clear hF; intro a hF
                refine wpList_nil ?_
                refine then_n ?_
                exact ⟨_, (by omega), k + 1, rfl, ⟨by omega, ok_stepC hok (hvb.1 (by simp_all))⟩, hF.to [1, 2, 3, 26, 27] rfl, (hS.sub [0, 1, 2] (by decide) (by first | rfl | simp) (by simp))⟩
        · first | (replace hc302 := of_decide_eq_false hc302) | (replace hc302 := of_decide_eq_true (bnot_f hc302)) | (replace hc302 := bnot_f hc302) | skip
          try (have hc302x := hc302; simp only [okS, okI, okW, okP] at hc302x)
          refine wp_exit ?_
          refine then_x ?_
          refine then_x ?_
          refine inb_x ?_
          refine then_n ?_
          refine c_seq ?_
          refine c_region ?_
          refine seq_yl hF (wn_none rfl) rfl rfl (yl_assign hF rfl rfl) ?_
          clear hF; intro a hF
          refine wpList_nil ?_
          refine then_n ?_
          refine wp_ret ?_
          refine ret_t hF rfl rfl ?_
          exact ⟨_, rfl, _, rfl, tI ⟨hC, hez, fun s h1 h2 => hok s h1 (by omega)⟩, (hS.sub [] (by decide) (by first | rfl | simp) (by simp))⟩

end Go.Proofs.Ytlhcpeolkkadbaa

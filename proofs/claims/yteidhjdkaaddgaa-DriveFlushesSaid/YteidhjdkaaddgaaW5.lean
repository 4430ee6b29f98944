/- walks, printed by wip/gen -/
import Derived.Test.YteidhjdkaaddgaaW4
namespace Go.Proofs.Yteidhjdkaaddgaa
open Go.RowKit
set_option linter.unusedVariables false
set_option linter.unusedSimpArgs false

set_option maxHeartbeats 2000000 in
set_option maxRecDepth 100000 in
theorem write2_any (st : ByteArray) (lv : Value) (L : List E39) (rm : Int) (s : Int) (x : ByteArray) (fua : Bool) (w0 : World) (hv : Rd w0 2 lv (L).length (cells enc39 (L))) (hz : (st.size : Int) ≤ 9223372036854775807) (hL : L.length ≤ 1000000) (hx : (x.size : Int) ≤ 9223372036854775807) :
    Fn Try.prog 24 #[.agg #[.string st, lv, .int .i64 rm], .int .i64 s, .string x, .bool fua] w0 (fun v w' => ∃ (st1 : ByteArray) (lv1 : Value) (L1 : List E39) (rm1 : Int) (b : Bool), v = .tuple #[.agg #[.string st1, lv1, .int .i64 rm1], .bool b] ∧ writeF st L rm s x fua = (st1, L1, rm1, b) ∧ Sat w0 w' [.row 39 2 lv1 (L1).length (cells enc39 (L1))]) := by
  obtain ⟨Alv, clv, rfl⟩ := Rd.form hv
  refine c_enter (N := 95) (l := [_, _, _, _]) Try.func24 rfl rfl (fun a w hF hS => ?_)
  replace hS := hS.addRo hv
  refine c_seq ?_
  refine c_region ?_
  refine seq_wp (wn_none rfl) (wp_box (cs := #[_, _, _]) hF hS rfl rfl rfl rfl rfl ?_)
  clear hF hS; intro a w g150 hF hS
  refine seq_wp (wn_none rfl) (wp_alloc (cs := #[_, _, _]) hF hS rfl rfl rfl zr25 rfl ?_)
  clear hF hS; intro a w g151 hF hS
  refine seq_yl hF (wn_none rfl) rfl rfl (yl_assign hF rfl rfl) ?_
  clear hF; intro a hF
  refine wpList_nil ?_
  refine then_n ?_
  refine c_seq ?_
  refine c_seq ?_
  refine c_region ?_
  refine seq_yl hF (wn_none rfl) rfl rfl (yl_loadK (rs := [_, _, _]) (fun _ h => h ▸ hS) hF rfl rfl 1 rfl ag25 sz25 rfl rfl) ?_
  clear hF; intro a hF
  refine seq_wp (wn_none rfl) (wp_call (vs := [_]) hF rfl rfl rfl rfl cf27 (dValid2_any st _ L (rm) _ (hS.rdRo 2 rfl) (by first | omega | (simp; done)) (by first | omega | (simp; done))) ?_)
  clear hF; rintro _ w ⟨rfl, hS1⟩ a hF
  replace hS := hS.callB hS1 rfl; clear hS1
  refine seq_yl hF (wn_none rfl) rfl rfl (yl_un hF rfl rfl (fun _ => run_not)) ?_
  clear hF; intro a hF
  refine seq_yl hF (wn_none rfl) rfl rfl (yl_move hF rfl rfl) ?_
  clear hF; intro a hF
  refine fr_split hF (fun hc152 hF => ?_) (fun hc152 hF => ?_)
  · first | (replace hc152 := of_decide_eq_true hc152) | (replace hc152 := of_decide_eq_false (bnot_t hc152)) | (replace hc152 := bnot_t hc152) | skip
    try (have hc152x := hc152; simp only [okS, okI, okW, okP] at hc152x)
    refine seq_skip hF (wn_f hF rfl rfl rfl rfl) rfl rfl ?_
    clear hF; intro a hF
    refine seq_skip hF (wn_f hF rfl rfl rfl rfl) rfl rfl ?_
    clear hF; intro a hF
    refine seq_skip hF (wn_f hF rfl rfl rfl rfl) rfl rfl ?_
    clear hF; intro a hF
    refine seq_yl hF (wn_none rfl) rfl rfl (yl_pick (u := _) (v := undef) hF rfl rfl (fun _ => rfl) (fun h => by cases h)) ?_
    clear hF; intro a hF
    refine seq_yl hF (wn_none rfl) rfl rfl (yl_move hF rfl rfl) ?_
    clear hF; intro a hF
    refine seq_skip hF (wn_f hF rfl rfl rfl rfl) rfl rfl ?_
    clear hF; intro a hF
    refine seq_skip hF (wn_f hF rfl rfl rfl rfl) rfl rfl ?_
    clear hF; intro a hF
    refine seq_skip hF (wn_f hF rfl rfl rfl rfl) rfl rfl ?_
    clear hF; intro a hF
    refine seq_skip hF (wn_f hF rfl rfl rfl rfl) rfl rfl ?_
    clear hF; intro a hF
    refine seq_skip hF (wn_f hF rfl rfl rfl rfl) rfl rfl ?_
    clear hF; intro a hF
    refine seq_skip hF (wn_f hF rfl rfl rfl rfl) rfl rfl ?_
    clear hF; intro a hF
    refine seq_skip hF (wn_f hF rfl rfl rfl rfl) rfl rfl ?_
    clear hF; intro a hF
    refine seq_skip hF (wn_f hF rfl rfl rfl rfl) rfl rfl ?_
    clear hF; intro a hF
    refine seq_yl hF (wn_none rfl) rfl rfl (yl_pick (u := _) (v := undef) hF rfl rfl (fun _ => rfl) (fun h => by cases h)) ?_
    clear hF; intro a hF
    refine wpList_nil ?_
    refine then_n ?_
    refine c_cond_t hF rfl ?_
    refine c_seq ?_
    refine c_region ?_
    refine seq_yl hF (wn_none rfl) rfl rfl (yl_build (parts := []) (vs := []) (cs := [_, _, _]) hF bd25 rfl rfl rfl rfl) ?_
    clear hF; intro a hF
    refine seq_wp (wn_none rfl) (wp_store (cs' := #[_, _, _]) hF hS rfl rfl rfl rfl 0 rfl sz25 (by simp [Value.cells, Value.oneCell']) (by simp [Value.cells]) rfl ?_)
    clear hF hS; intro a w hF hS
    refine seq_yl hF (wn_none rfl) rfl rfl (yl_assign hF rfl rfl) ?_
    clear hF; intro a hF
    refine wpList_nil ?_
    refine then_n ?_
    refine wp_ret ?_
    refine then_r ?_
    refine ret_ct hF rfl (resC hS rfl 0 rfl ag25 sz25) rfl ?_
    replace hS := hS.addNil 39 2
    exact ⟨_, rfl, _, _, [], _, _, rfl, wr_bad (fun h9 => by have h8 := h9.2; have h7 := okD_I h9.1; simp only [okW, okS, okI] at h8; first | exact absurd h9.1 (by assumption) | exact absurd h9.2.1 (by assumption) | omega), (hS.sub [0] (by decide) (by first | rfl | simp) (by simp))⟩
  · first | (replace hc152 := of_decide_eq_false hc152) | (replace hc152 := of_decide_eq_true (bnot_f hc152)) | (replace hc152 := bnot_f hc152) | skip
    try (have hc152x := hc152; simp only [okS, okI, okW, okP] at hc152x)
    refine seq_yl hF (wn_t hF rfl rfl rfl rfl) rfl rfl (yl_move hF rfl rfl) ?_
    clear hF; intro a hF
    refine seq_wp (wn_t hF rfl rfl rfl rfl) (wp_call (vs := [_]) hF rfl rfl rfl rfl cf43 (whole_any x _) ?_)
    clear hF; rintro _ w ⟨rfl, hS1⟩ a hF
    replace hS := hS.callB hS1 rfl; clear hS1
    refine seq_yl hF (wn_t hF rfl rfl rfl rfl) rfl rfl (yl_un hF rfl rfl (fun _ => run_not)) ?_
    clear hF; intro a hF
    refine seq_yl hF (wn_none rfl) rfl rfl (yl_pick (u := _) (v := undef) hF rfl rfl (fun h => by cases h) (fun _ => rfl)) ?_
    clear hF; intro a hF
    refine seq_yl hF (wn_none rfl) rfl rfl (yl_move hF rfl rfl) ?_
    clear hF; intro a hF
    refine fr_split hF (fun hc154 hF => ?_) (fun hc154 hF => ?_)
    · first | (replace hc154 := of_decide_eq_true hc154) | (replace hc154 := of_decide_eq_false (bnot_t hc154)) | (replace hc154 := bnot_t hc154) | skip
      try (have hc154x := hc154; simp only [okS, okI, okW, okP] at hc154x)
      refine seq_skip hF (wn_f hF rfl rfl rfl rfl) rfl rfl ?_
      clear hF; intro a hF
      refine seq_skip hF (wn_f hF rfl rfl rfl rfl) rfl rfl ?_
      clear hF; intro a hF
      refine seq_skip hF (wn_f hF rfl rfl rfl rfl) rfl rfl ?_
      clear hF; intro a hF
      refine seq_skip hF (wn_f hF rfl rfl rfl rfl) rfl rfl ?_
      clear hF; intro a hF
      refine seq_skip hF (wn_f hF rfl rfl rfl rfl) rfl rfl ?_
      clear hF; intro a hF
      refine seq_skip hF (wn_f hF rfl rfl rfl rfl) rfl rfl ?_
      clear hF; intro a hF
      refine seq_skip hF (wn_f hF rfl rfl rfl rfl) rfl rfl ?_
      clear hF; intro a hF
      refine seq_skip hF (wn_f hF rfl rfl rfl rfl) rfl rfl ?_
      clear hF; intro a hF
      refine seq_yl hF (wn_none rfl) rfl rfl (yl_pick (u := _) (v := undef) hF rfl rfl (fun _ => rfl) (fun h => by cases h)) ?_
      clear hF; intro a hF
      refine wpList_nil ?_
      refine then_n ?_
      refine c_cond_t hF rfl ?_
      refine c_seq ?_
      refine c_region ?_
      refine seq_yl hF (wn_none rfl) rfl rfl (yl_build (parts := []) (vs := []) (cs := [_, _, _]) hF bd25 rfl rfl rfl rfl) ?_
      clear hF; intro a hF
      refine seq_wp (wn_none rfl) (wp_store (cs' := #[_, _, _]) hF hS rfl rfl rfl rfl 0 rfl sz25 (by simp [Value.cells, Value.oneCell']) (by simp [Value.cells]) rfl ?_)
      clear hF hS; intro a w hF hS
      refine seq_yl hF (wn_none rfl) rfl rfl (yl_assign hF rfl rfl) ?_
      clear hF; intro a hF
      refine wpList_nil ?_
      refine then_n ?_
      refine wp_ret ?_
      refine then_r ?_
      refine ret_ct hF rfl (resC hS rfl 0 rfl ag25 sz25) rfl ?_
      replace hS := hS.addNil 39 2
      exact ⟨_, rfl, _, _, [], _, _, rfl, wr_bad (fun h9 => by have h8 := h9.2; have h7 := okD_I h9.1; simp only [okW, okS, okI] at h8; first | exact absurd h9.1 (by assumption) | exact absurd h9.2.1 (by assumption) | omega), (hS.sub [0] (by decide) (by first | rfl | simp) (by simp))⟩
    · first | (replace hc154 := of_decide_eq_false hc154) | (replace hc154 := of_decide_eq_true (bnot_f hc154)) | (replace hc154 := bnot_f hc154) | skip
      try (have hc154x := hc154; simp only [okS, okI, okW, okP] at hc154x)
      refine seq_yl hF (wn_t hF rfl rfl rfl rfl) rfl rfl (yl_move hF rfl rfl) ?_
      clear hF; intro a hF
      refine seq_yl hF (wn_t hF rfl rfl rfl rfl) rfl rfl (yl_move hF rfl rfl) ?_
      clear hF; intro a hF
      refine seq_yl hF (wn_t hF rfl rfl rfl rfl) rfl rfl (yl_len hF rfl rfl (fun _ => run_lenStr Try.underlying9)) ?_
      clear hF; intro a hF
      refine seq_yl hF (wn_t hF rfl rfl rfl rfl) rfl rfl (yl_bin hF rfl rfl rfl rfl (fun _ => run_quoN (by omega) (by omega) (by omega))) ?_
      clear hF; intro a hF
      refine seq_yl hF (wn_t hF rfl rfl rfl rfl) rfl rfl (yl_loadK (rs := [_, _, _]) (fun _ h => h ▸ hS) hF rfl rfl 1 rfl ag25 sz25 rfl rfl) ?_
      clear hF; intro a hF
      refine seq_wp (wn_t hF rfl rfl rfl rfl) (wp_call (vs := [_]) hF rfl rfl rfl rfl cf13 (secs_any st _ _ _ (by omega)) ?_)
      clear hF; rintro _ w ⟨rfl, hS1⟩ a hF
      replace hS := hS.callB hS1 rfl; clear hS1
      refine seq_wp (wn_t hF rfl rfl rfl rfl) (wp_call (vs := [_, _, _]) hF rfl rfl rfl rfl cf42 (in_any (s) (((((x).size : Nat) : Int) / (8 : Int))) ((((st).size : Int) / 8)) _ (by omega)) ?_)
      clear hF; rintro _ w ⟨rfl, hS1⟩ a hF
      replace hS := hS.callB hS1 rfl; clear hS1
      refine seq_yl hF (wn_t hF rfl rfl rfl rfl) rfl rfl (yl_un hF rfl rfl (fun _ => run_not)) ?_
      clear hF; intro a hF
      refine seq_yl hF (wn_none rfl) rfl rfl (yl_pick (u := _) (v := undef) hF rfl rfl (fun h => by cases h) (fun _ => rfl)) ?_
      clear hF; intro a hF
      refine wpList_nil ?_
      refine then_n ?_
      refine c_cond hF rfl (fun hc156 => ?_) (fun hc156 => ?_)
      · first | (replace hc156 := of_decide_eq_true hc156) | (replace hc156 := of_decide_eq_false (bnot_t hc156)) | (replace hc156 := bnot_t hc156) | skip
        try (have hc156x := hc156; simp only [okS, okI, okW, okP] at hc156x)
        refine c_seq ?_
        refine c_region ?_
        refine seq_yl hF (wn_none rfl) rfl rfl (yl_build (parts := []) (vs := []) (cs := [_, _, _]) hF bd25 rfl rfl rfl rfl) ?_
        clear hF; intro a hF
        refine seq_wp (wn_none rfl) (wp_store (cs' := #[_, _, _]) hF hS rfl rfl rfl rfl 0 rfl sz25 (by simp [Value.cells, Value.oneCell']) (by simp [Value.cells]) rfl ?_)
        clear hF hS; intro a w hF hS
        refine seq_yl hF (wn_none rfl) rfl rfl (yl_assign hF rfl rfl) ?_
        clear hF; intro a hF
        refine wpList_nil ?_
        refine then_n ?_
        refine wp_ret ?_
        refine then_r ?_
        refine ret_ct hF rfl (resC hS rfl 0 rfl ag25 sz25) rfl ?_
        replace hS := hS.addNil 39 2
        exact ⟨_, rfl, _, _, [], _, _, rfl, wr_bad (fun h9 => by have h8 := h9.2; have h7 := okD_I h9.1; simp only [okW, okS, okI] at h8; first | exact absurd h9.1 (by assumption) | exact absurd h9.2.1 (by assumption) | omega), (hS.sub [0] (by decide) (by first | rfl | simp) (by simp))⟩
      · first | (replace hc156 := of_decide_eq_false hc156) | (replace hc156 := of_decide_eq_true (bnot_f hc156)) | (replace hc156 := bnot_f hc156) | skip
        try (have hc156x := hc156; simp only [okS, okI, okW, okP] at hc156x)
        refine wp_skip ?_
        refine then_n ?_
        refine c_seq ?_
        refine c_seq ?_
        refine c_region ?_
        refine seq_yl hF (wn_none rfl) rfl rfl (yl_assign hF rfl rfl) ?_
        clear hF; intro a hF
        refine wpList_nil ?_
        refine then_n ?_
        refine wp_block ?_
        have hd9 : okD st L rm := by assumption
        have hw9 : okW (st.size : Int) s (x.size : Int) := by have h8 := okD_I hd9; unfold okW okS okI; first | omega | (refine ⟨by assumption, by omega⟩)
        have hw9x := hw9
        simp only [okW, okS, okI] at hw9x
        refine c_loop (fun m a w => ∃ (k : Nat) (st1 : ByteArray) (L1 : List E39) (AvW : Option Addr) (cvW : Nat) (ow : Bool), m = ((x.size : Int) / 8 - (k : Int)).toNat ∧ ((k : Int) ≤ (x.size : Int) / 8 ∧ wrN st L rm s x fua k = (st1, L1) ∧ (k ≠ 0 → ow = true)) ∧ Fr 95 a [(1, .int .i64 (s)), (2, .string x), (3, .bool fua), (4, .pointer (some ⟨g150, 0, none⟩)), (8, .pointer (some ⟨g151, 0, none⟩)), (10, .int .i64 ((k : Nat) : Int))] ∧ Sat w0 w (.box g150 25 #[.string st1, .slice AvW (L1).length cvW, .int .i64 (rm)] :: .box g151 25 #[.string (⟨#[]⟩ : ByteArray), .slice none 0 0, .int .i64 (0 : Int)] :: pickC ow 39 2 (.slice AvW (L1).length cvW) (L1).length (cells enc39 (L1)) :: [])) (((x.size : Int) / 8 - ((0 : Nat) : Int)).toNat) ?_ ?_
        · exact ⟨0, st, L, Alv, clv, false, rfl, ⟨by omega, rfl, fun h9 => absurd rfl h9⟩, hF.to [1, 2, 3, 4, 8, 10] rfl, (hS.sub [1, 0, 2] (by decide) (by first | rfl | simp) (by simp))⟩
        · clear hF hS; try clear hSS
          clear a w; rintro m a w ⟨k, st1, L1, AvW, cvW, ow, rfl, hinv, hF, hS⟩
          obtain ⟨hk, hw, how⟩ := hinv
          have hok := wrN_ok (fua := fua) hd9 hw9 k (by omega)
          rw [hw] at hok; dsimp only at hok
          obtain ⟨hd1, hs1⟩ := hok
          have hd1i := okD_I hd1
          have hS0 := hS; replace hS := hS.pickRo 2 rfl
          refine c_seq ?_
          refine c_seq ?_
          refine c_region ?_
          refine seq_yl hF (wn_none rfl) rfl rfl (yl_move hF rfl rfl) ?_
          clear hF; intro a hF
          refine seq_yl hF (wn_none rfl) rfl rfl (yl_move hF rfl rfl) ?_
          clear hF; intro a hF
          refine seq_yl hF (wn_none rfl) rfl rfl (yl_len hF rfl rfl (fun _ => run_lenStr Try.underlying9)) ?_
          clear hF; intro a hF
          refine seq_yl hF (wn_none rfl) rfl rfl (yl_bin hF rfl rfl rfl rfl (fun _ => run_quoN (by omega) (by omega) (by omega))) ?_
          clear hF; intro a hF
          refine seq_yl hF (wn_none rfl) rfl rfl (yl_bin hF rfl rfl rfl rfl (fun _ => run_lss)) ?_
          clear hF; intro a hF
          refine wpList_nil ?_
          refine then_n ?_
          refine c_cond hF rfl (fun hc158 => ?_) (fun hc158 => ?_)
          · first | (replace hc158 := of_decide_eq_true hc158) | (replace hc158 := of_decide_eq_false (bnot_t hc158)) | (replace hc158 := bnot_t hc158) | skip
            try (have hc158x := hc158; simp only [okS, okI, okW, okP] at hc158x)
            refine wp_skip ?_
            refine then_n ?_
            refine c_seq ?_
            refine wp_block ?_
            refine c_seq ?_
            refine c_region ?_
            refine seq_yl hF (wn_none rfl) rfl rfl (yl_move hF rfl rfl) ?_
            clear hF; intro a hF
            refine seq_yl hF (wn_none rfl) rfl rfl (yl_move hF rfl rfl) ?_
            clear hF; intro a hF
            refine seq_yl hF (wn_none rfl) rfl rfl (yl_bin hF rfl rfl rfl rfl (fun _ => run_add (by refine ⟨?_, ?_⟩ <;> omega))) ?_
            clear hF; intro a hF
            refine seq_yl hF (wn_none rfl) rfl rfl (yl_move hF rfl rfl) ?_
            clear hF; intro a hF
            refine seq_yl hF (wn_none rfl) rfl rfl (yl_move hF rfl rfl) ?_
            clear hF; intro a hF
            refine seq_yl hF (wn_none rfl) rfl rfl (yl_bin hF rfl rfl rfl rfl (fun _ => run_mul (by refine ⟨?_, ?_⟩ <;> omega))) ?_
            clear hF; intro a hF
            refine seq_yl hF (wn_none rfl) rfl rfl (yl_move hF rfl rfl) ?_
            clear hF; intro a hF
            refine seq_yl hF (wn_none rfl) rfl rfl (yl_bin hF rfl rfl rfl rfl (fun _ => run_inc (by omega))) ?_
            clear hF; intro a hF
            refine seq_yl hF (wn_none rfl) rfl rfl (yl_bin hF rfl rfl rfl rfl (fun _ => run_mul (by refine ⟨?_, ?_⟩ <;> omega))) ?_
            clear hF; intro a hF
            have hz159 := subs_size (s := x) (i := ((((k : Nat) : Int) * (8 : Int)))) (j := (((((k + 1) : Nat) : Int) * (8 : Int)))) (by omega) (by omega) (by omega)
            refine seq_yl hF (wn_none rfl) rfl rfl (yl_subsLH (s := x) (i := ((((k : Nat) : Int) * (8 : Int)))) (j := (((((k + 1) : Nat) : Int) * (8 : Int)))) hF rfl rfl rfl rfl Try.underlying9 (by omega) (by omega) (by omega)) ?_
            clear hF; intro a hF
            refine seq_yl hF (wn_none rfl) rfl rfl (yl_build (parts := [(0, .tmp 42), (1, .tmp 49)]) (vs := [(0, _), (1, _)]) (cs := [_, _]) hF bd39 rfl rfl rfl rfl) ?_
            clear hF; intro a hF
            refine seq_wp (wn_none rfl) (wp_alloc (cs := #[_, _]) hF hS rfl rfl rfl zr39 rfl ?_)
            clear hF hS; intro a w g160 hF hS
            refine seq_wp (wn_none rfl) (wp_store (cs' := #[_, _]) hF hS rfl rfl rfl rfl 0 rfl sz39 (by simp [Value.cells, Value.oneCell']) (by simp [Value.cells]) rfl ?_)
            clear hF hS; intro a w hF hS
            refine wpList_nil ?_
            refine then_n ?_
            refine c_seq ?_
            refine c_seq ?_
            refine c_region ?_
            refine seq_yl hF (wn_none rfl) rfl rfl (yl_move hF rfl rfl) ?_
            clear hF; intro a hF
            refine seq_yl hF (wn_none rfl) rfl rfl (yl_move hF rfl rfl) ?_
            clear hF; intro a hF
            refine fr_split hF (fun hc161 hF => ?_) (fun hc161 hF => ?_)
            · first | (replace hc161 := of_decide_eq_true hc161) | (replace hc161 := of_decide_eq_false (bnot_t hc161)) | (replace hc161 := bnot_t hc161) | skip
              try (have hc161x := hc161; simp only [okS, okI, okW, okP] at hc161x)
              refine seq_skip hF (wn_f hF rfl rfl rfl rfl) rfl rfl ?_
              clear hF; intro a hF
              refine seq_skip hF (wn_f hF rfl rfl rfl rfl) rfl rfl ?_
              clear hF; intro a hF
              refine seq_skip hF (wn_f hF rfl rfl rfl rfl) rfl rfl ?_
              clear hF; intro a hF
              refine seq_yl hF (wn_none rfl) rfl rfl (yl_pick (u := _) (v := undef) hF rfl rfl (fun _ => rfl) (fun h => by cases h)) ?_
              clear hF; intro a hF
              refine wpList_nil ?_
              refine then_n ?_
              refine c_cond_t hF rfl ?_
              refine c_seq ?_
              refine c_region ?_
              refine seq_yl hF (wn_none rfl) rfl rfl (yl_fieldAddr hF rfl rfl (fun w => by kernel_rfl : ∀ w, (Instr.fieldAt 25 (.pointer (some ⟨g150, 0, none⟩)) 0).run Try.prog w = .ok (.pointer (some ⟨g150, 0, none⟩)) w)) ?_
              clear hF; intro a hF
              refine seq_yl hF (wn_none rfl) rfl rfl (yl_load (fun _ h => h ▸ hS) hF rfl rfl 1 rfl ag9 rfl) ?_
              clear hF; intro a hF
              refine seq_yl hF (wn_none rfl) rfl rfl (yl_fieldAddr hF rfl rfl (fun w => by kernel_rfl : ∀ w, (Instr.fieldAt 39 (.pointer (some ⟨g160, 0, none⟩)) 0).run Try.prog w = .ok (.pointer (some ⟨g160, 0, none⟩)) w)) ?_
              clear hF; intro a hF
              refine seq_yl hF (wn_none rfl) rfl rfl (yl_load (fun _ h => h ▸ hS) hF rfl rfl 0 rfl ag3 rfl) ?_
              clear hF; intro a hF
              refine seq_yl hF (wn_none rfl) rfl rfl (yl_fieldAddr hF rfl rfl (fun w => by kernel_rfl : ∀ w, (Instr.fieldAt 39 (.pointer (some ⟨g160, 0, none⟩)) 1).run Try.prog w = .ok (.pointer (some ⟨g160, 1, none⟩)) w)) ?_
              clear hF; intro a hF
              refine seq_yl hF (wn_none rfl) rfl rfl (yl_load (fun _ h => h ▸ hS) hF rfl rfl 0 rfl ag9 rfl) ?_
              clear hF; intro a hF
              refine seq_wp (wn_none rfl) (wp_call (vs := [_, _, _]) hF rfl rfl rfl rfl cf31 (imWrite2_any st1 (((s) + ((k : Nat) : Int))) (subs x ((((k : Nat) : Int) * (8 : Int))) (((((k + 1) : Nat) : Int) * (8 : Int)))) _ (by omega) (by omega)) ?_)
              clear hF; rintro _ w ⟨xs162, e163, rfl, hsp164, hS1⟩ a hF
              replace hS := hS.callB hS1 rfl; clear hS1
              have hsp164z := fun h9 : okW ((st1).size : Int) (((s) + ((k : Nat) : Int))) (((subs x ((((k : Nat) : Int) * (8 : Int))) (((((k + 1) : Nat) : Int) * (8 : Int))))).size : Int) => wim_size (im := st1) (s := (((s) + ((k : Nat) : Int)))) (x := (subs x ((((k : Nat) : Int) * (8 : Int))) (((((k + 1) : Nat) : Int) * (8 : Int))))) h9
              obtain ⟨hk165, rfl, rfl⟩ := hsp164.resolve_right (fun h9 => h9.1 (okW_of (by unfold okS okI; omega) (by omega)))
              try (have hk165x := hk165; simp only [okS, okI, okW, okP] at hk165x)
              refine seq_yl hF (wn_none rfl) rfl rfl (yl_move hF rfl rfl) ?_
              clear hF; intro a hF
              refine seq_yl hF (wn_none rfl) rfl rfl (yl_extract hF rfl rfl rfl) ?_
              clear hF; intro a hF
              refine seq_yl hF (wn_none rfl) rfl rfl (yl_extract hF rfl rfl rfl) ?_
              clear hF; intro a hF
              refine seq_yl hF (wn_none rfl) rfl rfl (yl_assign hF rfl rfl) ?_
              clear hF; intro a hF
              refine seq_yl hF (wn_none rfl) rfl rfl (yl_assign hF rfl rfl) ?_
              clear hF; intro a hF
              refine wpList_nil ?_
              refine then_n ?_
              refine c_seq ?_
              refine ha_startS hS [1, 0] 9 (by kernel_rfl) ?_; clear hS; intro w hS
              have hSS := hS.sub [1, 0] (by decide) rfl (by simp)
              refine ha_y 0 hF rfl rfl rfl (wn_none rfl) (.inr hSS) (yl_move hF rfl rfl) ?_
              clear hF; intro a hF
              refine ha_y 1 hF rfl rfl rfl (wn_none rfl) (.inr hSS) (yl_fieldAddr hF rfl rfl (fun w => by kernel_rfl : ∀ w, (Instr.fieldAt 25 (.pointer (some ⟨g150, 0, none⟩)) 1).run Try.prog w = .ok (.pointer (some ⟨g150, 1, none⟩)) w)) ?_
              clear hF; intro a hF
              refine ha_y 3 hF rfl rfl rfl (wn_none rfl) (.inr hSS) (yl_fieldAddr hF rfl rfl (fun w => by kernel_rfl : ∀ w, (Instr.fieldAt 39 (.pointer (some ⟨g160, 0, none⟩)) 0).run Try.prog w = .ok (.pointer (some ⟨g160, 0, none⟩)) w)) ?_
              clear hF; intro a hF
              refine ha_y 6 hF rfl rfl rfl (wn_none rfl) (.inr hSS) (yl_fieldAddr hF rfl rfl (fun w => by kernel_rfl : ∀ w, (Instr.fieldAt 25 (.pointer (some ⟨g150, 0, none⟩)) 2).run Try.prog w = .ok (.pointer (some ⟨g150, 2, none⟩)) w)) ?_
              clear hF; intro a hF
              refine ha_l 2 hF rfl rfl rfl (wn_none rfl) hSS (yl_load (fun _ h => h) hF rfl rfl 0 rfl ag23 rfl) ?_
              clear hF; intro a hF
              refine ha_l 4 hF rfl rfl rfl (wn_none rfl) hSS (yl_load (fun _ h => h) hF rfl rfl 1 rfl ag3 rfl) ?_
              clear hF; intro a hF
              refine ha_l 7 hF rfl rfl rfl (wn_none rfl) hSS (yl_load (fun _ h => h) hF rfl rfl 0 rfl ag3 rfl) ?_
              clear hF; intro a hF
              refine ha_one 5 (by kernel_rfl) rfl (wn_none rfl) (wp_call (vs := [_, _]) hF rfl rfl rfl rfl cf44 (without_any _ L1 (((s) + ((k : Nat) : Int))) _ (hS.rdRo 3 rfl) (by omega)) ?_)
              clear hF; rintro _ w ⟨v166, rfl, hS1⟩ a hF
              replace hS := hS.callB hS1 rfl; clear hS1
              obtain ⟨Av166, cv166, rfl⟩ := hS.form 0 rfl
              have hls167 := len_selL (s := (((s) + ((k : Nat) : Int)))) (old := (fun _ => true)) L1 0
              replace hSS := hS.sub [2, 1] (by decide) rfl (by simp)
              refine ⟨.inr hSS, ?_⟩
              refine ha_y 8 hF rfl rfl rfl (wn_none rfl) (.inr hSS) (yl_build (parts := [(0, .tmp 67), (1, .tmp 72), (2, .tmp 74)]) (vs := [(0, _), (1, _), (2, _)]) (cs := [_, _, _]) hF bd25 rfl rfl rfl rfl) ?_
              clear hF; intro a hF
              refine ha_one 9 (by kernel_rfl) rfl (wn_none rfl) (wp_store (cs' := #[_, _, _]) hF hS rfl rfl rfl rfl 2 rfl sz25 (by simp [Value.cells, Value.oneCell']) (by simp [Value.cells]) rfl ?_)
              clear hF hS; intro a w hF hS
              refine ⟨.inl (by kernel_rfl), ?_⟩
              refine ha_done (by kernel_rfl) ?_ _
              refine then_n ?_
              refine wp_exit ?_
              refine then_x ?_
              refine inb_x ?_
              refine then_n ?_
              refine c_region ?_
              refine seq_yl hF (wn_none rfl) rfl rfl (yl_move hF rfl rfl) ?_
              clear hF; intro a hF
              refine seq_yl hF (wn_none rfl) rfl rfl (yl_bin hF rfl rfl rfl rfl (fun _ => run_inc (by omega))) ?_
              clear hF; intro a hF
              refine seq_yl hF (wn_none rfl) rfl rfl (yl_assign hF rfl rfl) ?_
              clear hF; intro a hF
              refine wpList_nil ?_
              refine then_n ?_
              have hp1 : put1 st1 L1 rm (s + (k : Int)) (subs x ((k : Int) * 8) (((k + 1 : Nat) : Int) * 8)) fua = ((wim st1 (((s) + ((k : Nat) : Int))) (subs x ((((k : Nat) : Int) * (8 : Int))) (((((k + 1) : Nat) : Int) * (8 : Int))))), (selL (((s) + ((k : Nat) : Int))) (fun _ => true) 0 L1)) := put1_1 (by first | exact .inl (by assumption) | exact .inr (by assumption))
              exact ⟨_, (by omega), k + 1, (wim st1 (((s) + ((k : Nat) : Int))) (subs x ((((k : Nat) : Int) * (8 : Int))) (((((k + 1) : Nat) : Int) * (8 : Int))))), (selL (((s) + ((k : Nat) : Int))) (fun _ => true) 0 L1), Av166, cv166, true, rfl, ⟨by omega, wrN_succ hw hp1, fun _ => rfl⟩, hF.to [1, 2, 3, 4, 8, 10] rfl, (hS.sub [2, 3, 0] (by decide) (by first | rfl | simp) (by simp))⟩
            · first | (replace hc161 := of_decide_eq_false hc161) | (replace hc161 := of_decide_eq_true (bnot_f hc161)) | (replace hc161 := bnot_f hc161) | skip
              try (have hc161x := hc161; simp only [okS, okI, okW, okP] at hc161x)
              refine seq_yl hF (wn_t hF rfl rfl rfl rfl) rfl rfl (yl_fieldAddr hF rfl rfl (fun w => by kernel_rfl : ∀ w, (Instr.fieldAt 25 (.pointer (some ⟨g150, 0, none⟩)) 2).run Try.prog w = .ok (.pointer (some ⟨g150, 2, none⟩)) w)) ?_
              clear hF; intro a hF
              refine seq_yl hF (wn_t hF rfl rfl rfl rfl) rfl rfl (yl_load (fun _ h => h ▸ hS) hF rfl rfl 1 rfl ag3 rfl) ?_
              clear hF; intro a hF
              refine seq_yl hF (wn_t hF rfl rfl rfl rfl) rfl rfl (yl_bin hF rfl rfl rfl rfl (fun _ => run_eql)) ?_
              clear hF; intro a hF
              refine seq_yl hF (wn_none rfl) rfl rfl (yl_pick (u := _) (v := undef) hF rfl rfl (fun h => by cases h) (fun _ => rfl)) ?_
              clear hF; intro a hF
              refine wpList_nil ?_
              refine then_n ?_
              refine c_cond hF rfl (fun hc168 => ?_) (fun hc168 => ?_)
              · first | (replace hc168 := of_decide_eq_true hc168) | (replace hc168 := of_decide_eq_false (bnot_t hc168)) | (replace hc168 := bnot_t hc168) | skip
                try (have hc168x := hc168; simp only [okS, okI, okW, okP] at hc168x)
                refine c_seq ?_
                refine c_region ?_
                refine seq_yl hF (wn_none rfl) rfl rfl (yl_fieldAddr hF rfl rfl (fun w => by kernel_rfl : ∀ w, (Instr.fieldAt 25 (.pointer (some ⟨g150, 0, none⟩)) 0).run Try.prog w = .ok (.pointer (some ⟨g150, 0, none⟩)) w)) ?_
                clear hF; intro a hF
                refine seq_yl hF (wn_none rfl) rfl rfl (yl_load (fun _ h => h ▸ hS) hF rfl rfl 1 rfl ag9 rfl) ?_
                clear hF; intro a hF
                refine seq_yl hF (wn_none rfl) rfl rfl (yl_fieldAddr hF rfl rfl (fun w => by kernel_rfl : ∀ w, (Instr.fieldAt 39 (.pointer (some ⟨g160, 0, none⟩)) 0).run Try.prog w = .ok (.pointer (some ⟨g160, 0, none⟩)) w)) ?_
                clear hF; intro a hF
                refine seq_yl hF (wn_none rfl) rfl rfl (yl_load (fun _ h => h ▸ hS) hF rfl rfl 0 rfl ag3 rfl) ?_
                clear hF; intro a hF
                refine seq_yl hF (wn_none rfl) rfl rfl (yl_fieldAddr hF rfl rfl (fun w => by kernel_rfl : ∀ w, (Instr.fieldAt 39 (.pointer (some ⟨g160, 0, none⟩)) 1).run Try.prog w = .ok (.pointer (some ⟨g160, 1, none⟩)) w)) ?_
                clear hF; intro a hF
                refine seq_yl hF (wn_none rfl) rfl rfl (yl_load (fun _ h => h ▸ hS) hF rfl rfl 0 rfl ag9 rfl) ?_
                clear hF; intro a hF
                refine seq_wp (wn_none rfl) (wp_call (vs := [_, _, _]) hF rfl rfl rfl rfl cf31 (imWrite2_any st1 (((s) + ((k : Nat) : Int))) (subs x ((((k : Nat) : Int) * (8 : Int))) (((((k + 1) : Nat) : Int) * (8 : Int)))) _ (by omega) (by omega)) ?_)
                clear hF; rintro _ w ⟨xs169, e170, rfl, hsp171, hS1⟩ a hF
                replace hS := hS.callB hS1 rfl; clear hS1
                have hsp171z := fun h9 : okW ((st1).size : Int) (((s) + ((k : Nat) : Int))) (((subs x ((((k : Nat) : Int) * (8 : Int))) (((((k + 1) : Nat) : Int) * (8 : Int))))).size : Int) => wim_size (im := st1) (s := (((s) + ((k : Nat) : Int)))) (x := (subs x ((((k : Nat) : Int) * (8 : Int))) (((((k + 1) : Nat) : Int) * (8 : Int))))) h9
                obtain ⟨hk172, rfl, rfl⟩ := hsp171.resolve_right (fun h9 => h9.1 (okW_of (by unfold okS okI; omega) (by omega)))
                try (have hk172x := hk172; simp only [okS, okI, okW, okP] at hk172x)
                refine seq_yl hF (wn_none rfl) rfl rfl (yl_move hF rfl rfl) ?_
                clear hF; intro a hF
                refine seq_yl hF (wn_none rfl) rfl rfl (yl_extract hF rfl rfl rfl) ?_
                clear hF; intro a hF
                refine seq_yl hF (wn_none rfl) rfl rfl (yl_extract hF rfl rfl rfl) ?_
                clear hF; intro a hF
                refine seq_yl hF (wn_none rfl) rfl rfl (yl_assign hF rfl rfl) ?_
                clear hF; intro a hF
                refine seq_yl hF (wn_none rfl) rfl rfl (yl_assign hF rfl rfl) ?_
                clear hF; intro a hF
                refine wpList_nil ?_
                refine then_n ?_
                refine c_seq ?_
                refine ha_startS hS [1, 0] 9 (by kernel_rfl) ?_; clear hS; intro w hS
                have hSS := hS.sub [1, 0] (by decide) rfl (by simp)
                refine ha_y 0 hF rfl rfl rfl (wn_none rfl) (.inr hSS) (yl_move hF rfl rfl) ?_
                clear hF; intro a hF
                refine ha_y 1 hF rfl rfl rfl (wn_none rfl) (.inr hSS) (yl_fieldAddr hF rfl rfl (fun w => by kernel_rfl : ∀ w, (Instr.fieldAt 25 (.pointer (some ⟨g150, 0, none⟩)) 1).run Try.prog w = .ok (.pointer (some ⟨g150, 1, none⟩)) w)) ?_
                clear hF; intro a hF
                refine ha_y 3 hF rfl rfl rfl (wn_none rfl) (.inr hSS) (yl_fieldAddr hF rfl rfl (fun w => by kernel_rfl : ∀ w, (Instr.fieldAt 39 (.pointer (some ⟨g160, 0, none⟩)) 0).run Try.prog w = .ok (.pointer (some ⟨g160, 0, none⟩)) w)) ?_
                clear hF; intro a hF
                refine ha_y 6 hF rfl rfl rfl (wn_none rfl) (.inr hSS) (yl_fieldAddr hF rfl rfl (fun w => by kernel_rfl : ∀ w, (Instr.fieldAt 25 (.pointer (some ⟨g150, 0, none⟩)) 2).run Try.prog w = .ok (.pointer (some ⟨g150, 2, none⟩)) w)) ?_
                clear hF; intro a hF
                refine ha_l 2 hF rfl rfl rfl (wn_none rfl) hSS (yl_load (fun _ h => h) hF rfl rfl 0 rfl ag23 rfl) ?_
                clear hF; intro a hF
                refine ha_l 4 hF rfl rfl rfl (wn_none rfl) hSS (yl_load (fun _ h => h) hF rfl rfl 1 rfl ag3 rfl) ?_
                clear hF; intro a hF
                refine ha_l 7 hF rfl rfl rfl (wn_none rfl) hSS (yl_load (fun _ h => h) hF rfl rfl 0 rfl ag3 rfl) ?_
                clear hF; intro a hF
                refine ha_one 5 (by kernel_rfl) rfl (wn_none rfl) (wp_call (vs := [_, _]) hF rfl rfl rfl rfl cf44 (without_any _ L1 (((s) + ((k : Nat) : Int))) _ (hS.rdRo 3 rfl) (by omega)) ?_)
                clear hF; rintro _ w ⟨v173, rfl, hS1⟩ a hF
                replace hS := hS.callB hS1 rfl; clear hS1
                obtain ⟨Av173, cv173, rfl⟩ := hS.form 0 rfl
                have hls174 := len_selL (s := (((s) + ((k : Nat) : Int)))) (old := (fun _ => true)) L1 0
                replace hSS := hS.sub [2, 1] (by decide) rfl (by simp)
                refine ⟨.inr hSS, ?_⟩
                refine ha_y 8 hF rfl rfl rfl (wn_none rfl) (.inr hSS) (yl_build (parts := [(0, .tmp 67), (1, .tmp 72), (2, .tmp 74)]) (vs := [(0, _), (1, _), (2, _)]) (cs := [_, _, _]) hF bd25 rfl rfl rfl rfl) ?_
                clear hF; intro a hF
                refine ha_one 9 (by kernel_rfl) rfl (wn_none rfl) (wp_store (cs' := #[_, _, _]) hF hS rfl rfl rfl rfl 2 rfl sz25 (by simp [Value.cells, Value.oneCell']) (by simp [Value.cells]) rfl ?_)
                clear hF hS; intro a w hF hS
                refine ⟨.inl (by kernel_rfl), ?_⟩
                refine ha_done (by kernel_rfl) ?_ _
                refine then_n ?_
                refine wp_exit ?_
                refine then_x ?_
                refine inb_x ?_
                refine then_n ?_
                refine c_region ?_
                refine seq_yl hF (wn_none rfl) rfl rfl (yl_move hF rfl rfl) ?_
                clear hF; intro a hF
                refine seq_yl hF (wn_none rfl) rfl rfl (yl_bin hF rfl rfl rfl rfl (fun _ => run_inc (by omega))) ?_
                clear hF; intro a hF
                refine seq_yl hF (wn_none rfl) rfl rfl (yl_assign hF rfl rfl) ?_
                clear hF; intro a hF
                refine wpList_nil ?_
                refine then_n ?_
                have hp1 : put1 st1 L1 rm (s + (k : Int)) (subs x ((k : Int) * 8) (((k + 1 : Nat) : Int) * 8)) fua = ((wim st1 (((s) + ((k : Nat) : Int))) (subs x ((((k : Nat) : Int) * (8 : Int))) (((((k + 1) : Nat) : Int) * (8 : Int))))), (selL (((s) + ((k : Nat) : Int))) (fun _ => true) 0 L1)) := put1_1 (by first | exact .inl (by assumption) | exact .inr (by assumption))
                exact ⟨_, (by omega), k + 1, (wim st1 (((s) + ((k : Nat) : Int))) (subs x ((((k : Nat) : Int) * (8 : Int))) (((((k + 1) : Nat) : Int) * (8 : Int))))), (selL (((s) + ((k : Nat) : Int))) (fun _ => true) 0 L1), Av173, cv173, true, rfl, ⟨by omega, wrN_succ hw hp1, fun _ => rfl⟩, hF.to [1, 2, 3, 4, 8, 10] rfl, (hS.sub [2, 3, 0] (by decide) (by first | rfl | simp) (by simp))⟩
              · first | (replace hc168 := of_decide_eq_false hc168) | (replace hc168 := of_decide_eq_true (bnot_f hc168)) | (replace hc168 := bnot_f hc168) | skip
                try (have hc168x := hc168; simp only [okS, okI, okW, okP] at hc168x)
                refine wp_skip ?_
                refine then_n ?_
                refine c_seq ?_
                refine c_seq ?_
                refine c_region ?_
                refine seq_yl hF (wn_none rfl) rfl rfl (yl_fieldAddr hF rfl rfl (fun w => by kernel_rfl : ∀ w, (Instr.fieldAt 25 (.pointer (some ⟨g150, 0, none⟩)) 1).run Try.prog w = .ok (.pointer (some ⟨g150, 1, none⟩)) w)) ?_
                clear hF; intro a hF
                refine seq_yl hF (wn_none rfl) rfl rfl (yl_load (fun _ h => h ▸ hS) hF rfl rfl 1 rfl ag23 rfl) ?_
                clear hF; intro a hF
                refine seq_yl hF (wn_none rfl) rfl rfl (yl_len hF rfl rfl (fun _ => run_lenRd sl23 (hS.rdRo 3 rfl))) ?_
                clear hF; intro a hF
                refine seq_yl hF (wn_none rfl) rfl rfl (yl_fieldAddr hF rfl rfl (fun w => by kernel_rfl : ∀ w, (Instr.fieldAt 25 (.pointer (some ⟨g150, 0, none⟩)) 2).run Try.prog w = .ok (.pointer (some ⟨g150, 2, none⟩)) w)) ?_
                clear hF; intro a hF
                refine seq_yl hF (wn_none rfl) rfl rfl (yl_load (fun _ h => h ▸ hS) hF rfl rfl 1 rfl ag3 rfl) ?_
                clear hF; intro a hF
                refine seq_yl hF (wn_none rfl) rfl rfl (yl_bin hF rfl rfl rfl rfl (fun _ => run_eql)) ?_
                clear hF; intro a hF
                refine wpList_nil ?_
                refine then_n ?_
                refine c_cond hF rfl (fun hc175 => ?_) (fun hc175 => ?_)
                · first | (replace hc175 := of_decide_eq_true hc175) | (replace hc175 := of_decide_eq_false (bnot_t hc175)) | (replace hc175 := bnot_t hc175) | skip
                  try (have hc175x := hc175; simp only [okS, okI, okW, okP] at hc175x)
                  refine c_region ?_
                  refine seq_yl hF (wn_none rfl) rfl rfl (yl_loadK (rs := [_, _, _]) (fun _ h => h ▸ hS) hF rfl rfl 1 rfl ag25 sz25 rfl rfl) ?_
                  clear hF; intro a hF
                  refine seq_wp (wn_none rfl) (wp_call (vs := [_, _]) hF rfl rfl rfl rfl cf25 (dest2_any st1 _ L1 (rm) (0 : Int) _ (hS.rdRo 3 rfl) (by first | omega | (simp; done)) (by first | omega | (simp; done))) ?_)
                  clear hF; rintro _ w ⟨st176, v177, Lq178, rm179, b180, rfl, hq181, hS1⟩ a hF
                  replace hS := hS.callB hS1 rfl; clear hS1
                  obtain ⟨Av177, cv177, rfl⟩ := hS.form 0 rfl
                  have hq181b := destF_bd hq181
                  obtain ⟨p182, hp182⟩ := get_some (L := L1) (k := 0) (by have h8 := okD_I hd1; omega)
                  have h8 := (destF_at hd1 hp182).symm.trans hq181; injection h8 with e1 h8; injection h8 with e2 h8; injection h8 with e3 e4; subst e1 e2 e3 e4
                  have hq181k := dest_ok hd1 hp182
                  have hq181f := fl_step (st := st1) hp182
                  have hq181n := len_selL (s := p182.f0) (old := (fun i => decide (i ≤ ((0 : Nat) : Int)))) L1 0
                  refine seq_yl hF (wn_none rfl) rfl rfl (yl_move hF rfl rfl) ?_
                  clear hF; intro a hF
                  refine seq_yl hF (wn_none rfl) rfl rfl (yl_extract hF rfl rfl rfl) ?_
                  clear hF; intro a hF
                  refine seq_yl hF (wn_none rfl) rfl rfl (yl_extract hF rfl rfl rfl) ?_
                  clear hF; intro a hF
                  refine seq_wp (wn_none rfl) (wp_store (cs' := #[_, _, _]) hF hS rfl rfl rfl rfl 2 rfl sz25 (by simp [Value.cells, Value.oneCell']) (by simp [Value.cells]) rfl ?_)
                  clear hF hS; intro a w hF hS
                  refine wpList_nil ?_
                  refine then_n ?_
                  refine ha_startS hS [2, 1] 7 (by kernel_rfl) ?_; clear hS; intro w hS
                  have hSS := hS.sub [2, 1] (by decide) rfl (by simp)
                  refine ha_y 0 hF rfl rfl rfl (wn_none rfl) (.inr hSS) (yl_fieldAddr hF rfl rfl (fun w => by kernel_rfl : ∀ w, (Instr.fieldAt 25 (.pointer (some ⟨g150, 0, none⟩)) 1).run Try.prog w = .ok (.pointer (some ⟨g150, 1, none⟩)) w)) ?_
                  clear hF; intro a hF
                  refine ha_l 1 hF rfl rfl rfl (wn_none rfl) hSS (yl_load (fun _ h => h) hF rfl rfl 0 rfl ag23 rfl) ?_
                  clear hF; intro a hF
                  refine ha_l 3 hF rfl rfl rfl (wn_none rfl) hSS (yl_loadK (rs := [_, _]) (fun _ h => h) hF rfl rfl 1 rfl ag39 sz39 rfl rfl) ?_
                  clear hF; intro a hF
                  refine ha_all (rs := [2, 4]) (by kernel_rfl) (by simp) ?_
                  refine List.forall_mem_cons.2 ⟨?_, List.forall_mem_cons.2 ⟨?_, (fun _ h => by cases h)⟩⟩
                  · skip
                    refine ha_op 2 rfl (wn_none rfl) (wp_app0 (enc := enc39) hF hS rfl rfl rfl rfl rfl sl23 inf39 rfl (by decide) (hS.rdRow 0 rfl) enc39_one (by decide) (by first | omega | (simp only [List.length_append, List.length_cons, List.length_nil]; omega) | (simp; omega)) ?_)
                    clear hF hS; intro a w v183 hF hS
                    obtain ⟨Av183, cv183, rfl⟩ := hS.form 0 rfl
                    replace hSS := hS.sub [3, 2] (by decide) rfl (by simp)
                    refine ⟨.inr hSS, ?_⟩
                    refine ha_one 4 (by kernel_rfl) rfl (wn_none rfl) (wp_bslice (parts := [(0, .tmp 90)]) (vs := [(0, _)]) (enc := enc39) (e := 39) (size := 2) (cs := #[.int .i64 (((s) + ((k : Nat) : Int))), .string (subs x ((((k : Nat) : Int) * (8 : Int))) (((((k + 1) : Nat) : Int) * (8 : Int))))]) hF hS rfl rfl rfl rfl ([(E39.mk (((s) + ((k : Nat) : Int))) (subs x ((((k : Nat) : Int) * (8 : Int))) (((((k + 1) : Nat) : Int) * (8 : Int)))))] : List E39) (fun w => by kernel_rfl) rfl rfl rfl (by decide) ?_)
                    clear hF hS; intro a w v184 hF hS
                    obtain ⟨Av184, cv184, rfl⟩ := hS.form 0 rfl
                    replace hSS := hS.sub [4, 3] (by decide) rfl (by simp)
                    refine ⟨.inr hSS, ?_⟩
                    refine ha_one 5 (by kernel_rfl) rfl (wn_none rfl) (wp_app (enc := enc39) hF hS rfl rfl rfl rfl rfl 1 rfl sl23 inf39 rfl (by decide) (hS.rdRow 0 rfl) enc39_one (by decide) (by first | omega | (simp only [List.length_append, List.length_cons, List.length_nil]; omega) | (simp; omega)) ?_)
                    clear hF hS; intro a w v185 hF hS
                    obtain ⟨Av185, cv185, rfl⟩ := hS.form 1 rfl
                    replace hSS := hS.sub [4, 3] (by decide) rfl (by simp)
                    refine ⟨.inr hSS, ?_⟩
                    refine ha_y 6 hF rfl rfl rfl (wn_none rfl) (.inr hSS) (yl_fieldAddr hF rfl rfl (fun w => by kernel_rfl : ∀ w, (Instr.fieldAt 25 (.pointer (some ⟨g150, 0, none⟩)) 1).run Try.prog w = .ok (.pointer (some ⟨g150, 1, none⟩)) w)) ?_
                    clear hF; intro a hF
                    refine ha_one 7 (by kernel_rfl) rfl (wn_none rfl) (wp_store (cs' := #[_, _, _]) hF hS rfl rfl rfl rfl 4 rfl sz23 (by simp [Value.cells, Value.oneCell']) (by simp [Value.cells]) rfl ?_)
                    clear hF hS; intro a w hF hS
                    refine ⟨.inl (by kernel_rfl), ?_⟩
                    refine ha_done (by kernel_rfl) ?_ _
                    refine inb_n ?_
                    refine then_n ?_
                    refine c_region ?_
                    refine seq_yl hF (wn_none rfl) rfl rfl (yl_move hF rfl rfl) ?_
                    clear hF; intro a hF
                    refine seq_yl hF (wn_none rfl) rfl rfl (yl_bin hF rfl rfl rfl rfl (fun _ => run_inc (by omega))) ?_
                    clear hF; intro a hF
                    refine seq_yl hF (wn_none rfl) rfl rfl (yl_assign hF rfl rfl) ?_
                    clear hF; intro a hF
                    refine wpList_nil ?_
                    refine then_n ?_
                    have hp1 : put1 st1 L1 rm (s + (k : Int)) (subs x ((k : Int) * 8) (((k + 1 : Nat) : Int) * 8)) fua = ((wim st1 p182.f0 p182.f1), ((selL p182.f0 (fun i => decide (i ≤ ((0 : Nat) : Int))) 0 L1) ++ ([(E39.mk (((s) + ((k : Nat) : Int))) (subs x ((((k : Nat) : Int) * (8 : Int))) (((((k + 1) : Nat) : Int) * (8 : Int)))))] : List E39))) := put1_2 (by assumption) (by omega) (by omega) hp182
                    exact ⟨_, (by omega), k + 1, (wim st1 p182.f0 p182.f1), ((selL p182.f0 (fun i => decide (i ≤ ((0 : Nat) : Int))) 0 L1) ++ ([(E39.mk (((s) + ((k : Nat) : Int))) (subs x ((((k : Nat) : Int) * (8 : Int))) (((((k + 1) : Nat) : Int) * (8 : Int)))))] : List E39)), Av185, cv185, true, rfl, ⟨by omega, wrN_succ hw hp1, fun _ => rfl⟩, hF.to [1, 2, 3, 4, 8, 10] rfl, (hS.sub [4, 5, 1] (by decide) (by first | rfl | simp) (by simp))⟩
                  · skip
                    refine ha_op 4 rfl (wn_none rfl) (wp_bslice (parts := [(0, .tmp 90)]) (vs := [(0, _)]) (enc := enc39) (e := 39) (size := 2) (cs := #[.int .i64 (((s) + ((k : Nat) : Int))), .string (subs x ((((k : Nat) : Int) * (8 : Int))) (((((k + 1) : Nat) : Int) * (8 : Int))))]) hF hS rfl rfl rfl rfl ([(E39.mk (((s) + ((k : Nat) : Int))) (subs x ((((k : Nat) : Int) * (8 : Int))) (((((k + 1) : Nat) : Int) * (8 : Int)))))] : List E39) (fun w => by kernel_rfl) rfl rfl rfl (by decide) ?_)
                    clear hF hS; intro a w v186 hF hS
                    obtain ⟨Av186, cv186, rfl⟩ := hS.form 0 rfl
                    replace hSS := hS.sub [3, 2] (by decide) rfl (by simp)
                    refine ⟨.inr hSS, ?_⟩
                    refine ha_one 2 (by kernel_rfl) rfl (wn_none rfl) (wp_app0 (enc := enc39) hF hS rfl rfl rfl rfl rfl sl23 inf39 rfl (by decide) (hS.rdRow 1 rfl) enc39_one (by decide) (by first | omega | (simp only [List.length_append, List.length_cons, List.length_nil]; omega) | (simp; omega)) ?_)
                    clear hF hS; intro a w v187 hF hS
                    obtain ⟨Av187, cv187, rfl⟩ := hS.form 0 rfl
                    replace hSS := hS.sub [4, 3] (by decide) rfl (by simp)
                    refine ⟨.inr hSS, ?_⟩
                    refine ha_one 5 (by kernel_rfl) rfl (wn_none rfl) (wp_app (enc := enc39) hF hS rfl rfl rfl rfl rfl 0 rfl sl23 inf39 rfl (by decide) (hS.rdRow 1 rfl) enc39_one (by decide) (by first | omega | (simp only [List.length_append, List.length_cons, List.length_nil]; omega) | (simp; omega)) ?_)
                    clear hF hS; intro a w v188 hF hS
                    obtain ⟨Av188, cv188, rfl⟩ := hS.form 0 rfl
                    replace hSS := hS.sub [4, 3] (by decide) rfl (by simp)
                    refine ⟨.inr hSS, ?_⟩
                    refine ha_y 6 hF rfl rfl rfl (wn_none rfl) (.inr hSS) (yl_fieldAddr hF rfl rfl (fun w => by kernel_rfl : ∀ w, (Instr.fieldAt 25 (.pointer (some ⟨g150, 0, none⟩)) 1).run Try.prog w = .ok (.pointer (some ⟨g150, 1, none⟩)) w)) ?_
                    clear hF; intro a hF
                    refine ha_one 7 (by kernel_rfl) rfl (wn_none rfl) (wp_store (cs' := #[_, _, _]) hF hS rfl rfl rfl rfl 4 rfl sz23 (by simp [Value.cells, Value.oneCell']) (by simp [Value.cells]) rfl ?_)
                    clear hF hS; intro a w hF hS
                    refine ⟨.inl (by kernel_rfl), ?_⟩
                    refine ha_done (by kernel_rfl) ?_ _
                    refine inb_n ?_
                    refine then_n ?_
                    refine c_region ?_
                    refine seq_yl hF (wn_none rfl) rfl rfl (yl_move hF rfl rfl) ?_
                    clear hF; intro a hF
                    refine seq_yl hF (wn_none rfl) rfl rfl (yl_bin hF rfl rfl rfl rfl (fun _ => run_inc (by omega))) ?_
                    clear hF; intro a hF
                    refine seq_yl hF (wn_none rfl) rfl rfl (yl_assign hF rfl rfl) ?_
                    clear hF; intro a hF
                    refine wpList_nil ?_
                    refine then_n ?_
                    have hp1 : put1 st1 L1 rm (s + (k : Int)) (subs x ((k : Int) * 8) (((k + 1 : Nat) : Int) * 8)) fua = ((wim st1 p182.f0 p182.f1), ((selL p182.f0 (fun i => decide (i ≤ ((0 : Nat) : Int))) 0 L1) ++ ([(E39.mk (((s) + ((k : Nat) : Int))) (subs x ((((k : Nat) : Int) * (8 : Int))) (((((k + 1) : Nat) : Int) * (8 : Int)))))] : List E39))) := put1_2 (by assumption) (by omega) (by omega) hp182
                    exact ⟨_, (by omega), k + 1, (wim st1 p182.f0 p182.f1), ((selL p182.f0 (fun i => decide (i ≤ ((0 : Nat) : Int))) 0 L1) ++ ([(E39.mk (((s) + ((k : Nat) : Int))) (subs x ((((k : Nat) : Int) * (8 : Int))) (((((k + 1) : Nat) : Int) * (8 : Int)))))] : List E39)), Av188, cv188, true, rfl, ⟨by omega, wrN_succ hw hp1, fun _ => rfl⟩, hF.to [1, 2, 3, 4, 8, 10] rfl, (hS.sub [4, 5, 0] (by decide) (by first | rfl | simp) (by simp))⟩
                · first | (replace hc175 := of_decide_eq_false hc175) | (replace hc175 := of_decide_eq_true (bnot_f hc175)) | (replace hc175 := bnot_f hc175) | skip
                  try (have hc175x := hc175; simp only [okS, okI, okW, okP] at hc175x)
                  refine wp_skip ?_
                  refine then_n ?_
                  refine ha_startS hS [1, 0] 7 (by kernel_rfl) ?_; clear hS; intro w hS
                  have hSS := hS.sub [1, 0] (by decide) rfl (by simp)
                  refine ha_y 0 hF rfl rfl rfl (wn_none rfl) (.inr hSS) (yl_fieldAddr hF rfl rfl (fun w => by kernel_rfl : ∀ w, (Instr.fieldAt 25 (.pointer (some ⟨g150, 0, none⟩)) 1).run Try.prog w = .ok (.pointer (some ⟨g150, 1, none⟩)) w)) ?_
                  clear hF; intro a hF
                  refine ha_l 1 hF rfl rfl rfl (wn_none rfl) hSS (yl_load (fun _ h => h) hF rfl rfl 0 rfl ag23 rfl) ?_
                  clear hF; intro a hF
                  refine ha_l 3 hF rfl rfl rfl (wn_none rfl) hSS (yl_loadK (rs := [_, _]) (fun _ h => h) hF rfl rfl 1 rfl ag39 sz39 rfl rfl) ?_
                  clear hF; intro a hF
                  refine ha_all (rs := [2, 4]) (by kernel_rfl) (by simp) ?_
                  refine List.forall_mem_cons.2 ⟨?_, List.forall_mem_cons.2 ⟨?_, (fun _ h => by cases h)⟩⟩
                  · skip
                    refine ha_op 2 rfl (wn_none rfl) (wp_app0 (enc := enc39) hF hS rfl rfl rfl rfl rfl sl23 inf39 rfl (by decide) (hS.rdRo 3 rfl) enc39_one (by decide) (by first | omega | (simp only [List.length_append, List.length_cons, List.length_nil]; omega) | (simp; omega)) ?_)
                    clear hF hS; intro a w v189 hF hS
                    obtain ⟨Av189, cv189, rfl⟩ := hS.form 0 rfl
                    replace hSS := hS.sub [2, 1] (by decide) rfl (by simp)
                    refine ⟨.inr hSS, ?_⟩
                    refine ha_one 4 (by kernel_rfl) rfl (wn_none rfl) (wp_bslice (parts := [(0, .tmp 90)]) (vs := [(0, _)]) (enc := enc39) (e := 39) (size := 2) (cs := #[.int .i64 (((s) + ((k : Nat) : Int))), .string (subs x ((((k : Nat) : Int) * (8 : Int))) (((((k + 1) : Nat) : Int) * (8 : Int))))]) hF hS rfl rfl rfl rfl ([(E39.mk (((s) + ((k : Nat) : Int))) (subs x ((((k : Nat) : Int) * (8 : Int))) (((((k + 1) : Nat) : Int) * (8 : Int)))))] : List E39) (fun w => by kernel_rfl) rfl rfl rfl (by decide) ?_)
                    clear hF hS; intro a w v190 hF hS
                    obtain ⟨Av190, cv190, rfl⟩ := hS.form 0 rfl
                    replace hSS := hS.sub [3, 2] (by decide) rfl (by simp)
                    refine ⟨.inr hSS, ?_⟩
                    refine ha_one 5 (by kernel_rfl) rfl (wn_none rfl) (wp_app (enc := enc39) hF hS rfl rfl rfl rfl rfl 1 rfl sl23 inf39 rfl (by decide) (hS.rdRow 0 rfl) enc39_one (by decide) (by first | omega | (simp only [List.length_append, List.length_cons, List.length_nil]; omega) | (simp; omega)) ?_)
                    clear hF hS; intro a w v191 hF hS
                    obtain ⟨Av191, cv191, rfl⟩ := hS.form 1 rfl
                    replace hSS := hS.sub [3, 2] (by decide) rfl (by simp)
                    refine ⟨.inr hSS, ?_⟩
                    refine ha_y 6 hF rfl rfl rfl (wn_none rfl) (.inr hSS) (yl_fieldAddr hF rfl rfl (fun w => by kernel_rfl : ∀ w, (Instr.fieldAt 25 (.pointer (some ⟨g150, 0, none⟩)) 1).run Try.prog w = .ok (.pointer (some ⟨g150, 1, none⟩)) w)) ?_
                    clear hF; intro a hF
                    refine ha_one 7 (by kernel_rfl) rfl (wn_none rfl) (wp_store (cs' := #[_, _, _]) hF hS rfl rfl rfl rfl 3 rfl sz23 (by simp [Value.cells, Value.oneCell']) (by simp [Value.cells]) rfl ?_)
                    clear hF hS; intro a w hF hS
                    refine ⟨.inl (by kernel_rfl), ?_⟩
                    refine ha_done (by kernel_rfl) ?_ _
                    refine inb_n ?_
                    refine then_n ?_
                    refine c_region ?_
                    refine seq_yl hF (wn_none rfl) rfl rfl (yl_move hF rfl rfl) ?_
                    clear hF; intro a hF
                    refine seq_yl hF (wn_none rfl) rfl rfl (yl_bin hF rfl rfl rfl rfl (fun _ => run_inc (by omega))) ?_
                    clear hF; intro a hF
                    refine seq_yl hF (wn_none rfl) rfl rfl (yl_assign hF rfl rfl) ?_
                    clear hF; intro a hF
                    refine wpList_nil ?_
                    refine then_n ?_
                    have hp1 : put1 st1 L1 rm (s + (k : Int)) (subs x ((k : Int) * 8) (((k + 1 : Nat) : Int) * 8)) fua = (st1, (L1 ++ ([(E39.mk (((s) + ((k : Nat) : Int))) (subs x ((((k : Nat) : Int) * (8 : Int))) (((((k + 1) : Nat) : Int) * (8 : Int)))))] : List E39))) := put1_3 (by assumption) (by omega) (by omega)
                    exact ⟨_, (by omega), k + 1, st1, (L1 ++ ([(E39.mk (((s) + ((k : Nat) : Int))) (subs x ((((k : Nat) : Int) * (8 : Int))) (((((k + 1) : Nat) : Int) * (8 : Int)))))] : List E39)), Av191, cv191, true, rfl, ⟨by omega, wrN_succ hw hp1, fun _ => rfl⟩, hF.to [1, 2, 3, 4, 8, 10] rfl, (hS.sub [3, 4, 1] (by decide) (by first | rfl | simp) (by simp))⟩
                  · skip
                    refine ha_op 4 rfl (wn_none rfl) (wp_bslice (parts := [(0, .tmp 90)]) (vs := [(0, _)]) (enc := enc39) (e := 39) (size := 2) (cs := #[.int .i64 (((s) + ((k : Nat) : Int))), .string (subs x ((((k : Nat) : Int) * (8 : Int))) (((((k + 1) : Nat) : Int) * (8 : Int))))]) hF hS rfl rfl rfl rfl ([(E39.mk (((s) + ((k : Nat) : Int))) (subs x ((((k : Nat) : Int) * (8 : Int))) (((((k + 1) : Nat) : Int) * (8 : Int)))))] : List E39) (fun w => by kernel_rfl) rfl rfl rfl (by decide) ?_)
                    clear hF hS; intro a w v192 hF hS
                    obtain ⟨Av192, cv192, rfl⟩ := hS.form 0 rfl
                    replace hSS := hS.sub [2, 1] (by decide) rfl (by simp)
                    refine ⟨.inr hSS, ?_⟩
                    refine ha_one 2 (by kernel_rfl) rfl (wn_none rfl) (wp_app0 (enc := enc39) hF hS rfl rfl rfl rfl rfl sl23 inf39 rfl (by decide) (hS.rdRo 4 rfl) enc39_one (by decide) (by first | omega | (simp only [List.length_append, List.length_cons, List.length_nil]; omega) | (simp; omega)) ?_)
                    clear hF hS; intro a w v193 hF hS
                    obtain ⟨Av193, cv193, rfl⟩ := hS.form 0 rfl
                    replace hSS := hS.sub [3, 2] (by decide) rfl (by simp)
                    refine ⟨.inr hSS, ?_⟩
                    refine ha_one 5 (by kernel_rfl) rfl (wn_none rfl) (wp_app (enc := enc39) hF hS rfl rfl rfl rfl rfl 0 rfl sl23 inf39 rfl (by decide) (hS.rdRow 1 rfl) enc39_one (by decide) (by first | omega | (simp only [List.length_append, List.length_cons, List.length_nil]; omega) | (simp; omega)) ?_)
                    clear hF hS; intro a w v194 hF hS
                    obtain ⟨Av194, cv194, rfl⟩ := hS.form 0 rfl
                    replace hSS := hS.sub [3, 2] (by decide) rfl (by simp)
                    refine ⟨.inr hSS, ?_⟩
                    refine ha_y 6 hF rfl rfl rfl (wn_none rfl) (.inr hSS) (yl_fieldAddr hF rfl rfl (fun w => by kernel_rfl : ∀ w, (Instr.fieldAt 25 (.pointer (some ⟨g150, 0, none⟩)) 1).run Try.prog w = .ok (.pointer (some ⟨g150, 1, none⟩)) w)) ?_
                    clear hF; intro a hF
                    refine ha_one 7 (by kernel_rfl) rfl (wn_none rfl) (wp_store (cs' := #[_, _, _]) hF hS rfl rfl rfl rfl 3 rfl sz23 (by simp [Value.cells, Value.oneCell']) (by simp [Value.cells]) rfl ?_)
                    clear hF hS; intro a w hF hS
                    refine ⟨.inl (by kernel_rfl), ?_⟩
                    refine ha_done (by kernel_rfl) ?_ _
                    refine inb_n ?_
                    refine then_n ?_
                    refine c_region ?_
                    refine seq_yl hF (wn_none rfl) rfl rfl (yl_move hF rfl rfl) ?_
                    clear hF; intro a hF
                    refine seq_yl hF (wn_none rfl) rfl rfl (yl_bin hF rfl rfl rfl rfl (fun _ => run_inc (by omega))) ?_
                    clear hF; intro a hF
                    refine seq_yl hF (wn_none rfl) rfl rfl (yl_assign hF rfl rfl) ?_
                    clear hF; intro a hF
                    refine wpList_nil ?_
                    refine then_n ?_
                    have hp1 : put1 st1 L1 rm (s + (k : Int)) (subs x ((k : Int) * 8) (((k + 1 : Nat) : Int) * 8)) fua = (st1, (L1 ++ ([(E39.mk (((s) + ((k : Nat) : Int))) (subs x ((((k : Nat) : Int) * (8 : Int))) (((((k + 1) : Nat) : Int) * (8 : Int)))))] : List E39))) := put1_3 (by assumption) (by omega) (by omega)
                    exact ⟨_, (by omega), k + 1, st1, (L1 ++ ([(E39.mk (((s) + ((k : Nat) : Int))) (subs x ((((k : Nat) : Int) * (8 : Int))) (((((k + 1) : Nat) : Int) * (8 : Int)))))] : List E39)), Av194, cv194, true, rfl, ⟨by omega, wrN_succ hw hp1, fun _ => rfl⟩, hF.to [1, 2, 3, 4, 8, 10] rfl, (hS.sub [3, 4, 0] (by decide) (by first | rfl | simp) (by simp))⟩
          · first | (replace hc158 := of_decide_eq_false hc158) | (replace hc158 := of_decide_eq_true (bnot_f hc158)) | (replace hc158 := bnot_f hc158) | skip
            try (have hc158x := hc158; simp only [okS, okI, okW, okP] at hc158x)
            refine wp_exit ?_
            refine then_x ?_
            refine then_x ?_
            refine inb_x ?_
            refine then_n ?_
            refine c_seq ?_
            refine c_region ?_
            obtain rfl := how (by omega); simp only [pickC] at hS0; replace hS := hS0
            refine seq_yl hF (wn_none rfl) rfl rfl (yl_loadK (rs := [_, _, _]) (fun _ h => h ▸ hS) hF rfl rfl 0 rfl ag25 sz25 rfl rfl) ?_
            clear hF; intro a hF
            refine seq_wp (wn_none rfl) (wp_store (cs' := #[_, _, _]) hF hS rfl rfl rfl rfl 1 rfl sz25 (by simp [Value.cells, Value.oneCell']) (by simp [Value.cells]) rfl ?_)
            clear hF hS; intro a w hF hS
            refine seq_yl hF (wn_none rfl) rfl rfl (yl_assign hF rfl rfl) ?_
            clear hF; intro a hF
            refine wpList_nil ?_
            refine then_n ?_
            refine wp_ret ?_
            refine ret_ct hF rfl (resC hS rfl 1 rfl ag25 sz25) rfl ?_
            exact ⟨_, rfl, _, _, _, _, _, rfl, wrN_end hw hd9 hw9 (by omega), (hS.sub [2] (by decide) (by first | rfl | simp) (by simp))⟩

end Go.Proofs.Yteidhjdkaaddgaa

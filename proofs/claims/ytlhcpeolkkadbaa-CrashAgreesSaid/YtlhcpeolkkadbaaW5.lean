/- walks, printed by wip/gen -/
import Derived.Test.YtlhcpeolkkadbaaW4
namespace Go.Proofs.Ytlhcpeolkkadbaa
open Go.RowKit
set_option linter.unusedVariables false
set_option linter.unusedSimpArgs false

set_option maxHeartbeats 2000000 in
set_option maxRecDepth 100000 in
theorem write2_any (st : ByteArray) (lv : Value) (L : List E59) (rm : Int) (s : Int) (x : ByteArray) (fua : Bool) (w0 : World) (hv : Rd w0 2 lv (L).length (cells enc59 (L))) (hz : (st.size : Int) ≤ 9223372036854775807) (hL : L.length ≤ 1000000) (hx : (x.size : Int) ≤ 9223372036854775807) :
    Fn Try.prog 29 #[.agg #[.string st, lv, .int .i64 rm], .int .i64 s, .string x, .bool fua] w0 (fun v w' => ∃ (st1 : ByteArray) (lv1 : Value) (L1 : List E59) (rm1 : Int) (b : Bool), v = .tuple #[.agg #[.string st1, lv1, .int .i64 rm1], .bool b] ∧ writeF st L rm s x fua = (st1, L1, rm1, b) ∧ Sat w0 w' [.row 59 2 lv1 (L1).length (cells enc59 (L1))]) := by
  obtain ⟨Alv, clv, rfl⟩ := Rd.form hv
  refine c_enter (N := 95) (l := [_, _, _, _]) Try.func29 rfl rfl (fun a w hF hS => ?_)
  replace hS := hS.addRo hv
  refine c_seq ?_
  refine c_region ?_
  refine seq_wp (wn_none rfl) (wp_box (cs := #[_, _, _]) hF hS rfl rfl rfl rfl rfl ?_)
  clear hF hS; intro a w g136 hF hS
  refine seq_wp (wn_none rfl) (wp_alloc (cs := #[_, _, _]) hF hS rfl rfl rfl zr24 rfl ?_)
  clear hF hS; intro a w g137 hF hS
  refine seq_yl hF (wn_none rfl) rfl rfl (yl_assign hF rfl rfl) ?_
  clear hF; intro a hF
  refine wpList_nil ?_
  refine then_n ?_
  refine c_seq ?_
  refine c_seq ?_
  refine c_region ?_
  refine seq_yl hF (wn_none rfl) rfl rfl (yl_loadK (rs := [_, _, _]) (fun _ h => h ▸ hS) hF rfl rfl 1 rfl ag24 sz24 rfl rfl) ?_
  clear hF; intro a hF
  refine seq_wp (wn_none rfl) (wp_call (vs := [_]) hF rfl rfl rfl rfl cf49 (dValid2_any st _ L (rm) _ (hS.rdRo 2 rfl) (by first | omega | (simp; done)) (by first | omega | (simp; done))) ?_)
  clear hF; rintro _ w ⟨rfl, hS1⟩ a hF
  replace hS := hS.callB hS1 rfl; clear hS1
  refine seq_yl hF (wn_none rfl) rfl rfl (yl_un hF rfl rfl (fun _ => run_not)) ?_
  clear hF; intro a hF
  refine seq_yl hF (wn_none rfl) rfl rfl (yl_move hF rfl rfl) ?_
  clear hF; intro a hF
  refine fr_split hF (fun hc138 hF => ?_) (fun hc138 hF => ?_)
  · first | (replace hc138 := of_decide_eq_true hc138) | (replace hc138 := of_decide_eq_false (bnot_t hc138)) | (replace hc138 := bnot_t hc138) | skip
    try (have hc138x := hc138; simp only [okS, okI, okW, okP] at hc138x)
    refine seq_skip hF (wn_f hF rfl rfl rfl rfl) rfl rfl ?_
    clear hF; intro a hF
    refine seq_skip hF (wn_f hF rfl rfl rfl rfl) rfl rfl ?_
    clear hF; intro a hF
    refine seq_skip hF (wn_f hF rfl rfl rfl rfl) rfl rfl ?_
    clear hF; intro a hF
    refine seq_yl hF (wn_none rfl) rfl rfl (yl_pick (u := _) (v := undef) hF rfl rfl (fun _ => rfl) (fun h => by cases h)) ?_
    clear hF; intro a hF
    refine seq_yl hF (wn_none rfl) rfl rfl (yl_move hF rfl rfl) ?_
    clear hF; intro a hF
    refine seq_skip hF (wn_f hF rfl rfl rfl rfl) rfl rfl ?_
    clear hF; intro a hF
    refine seq_skip hF (wn_f hF rfl rfl rfl rfl) rfl rfl ?_
    clear hF; intro a hF
    refine seq_skip hF (wn_f hF rfl rfl rfl rfl) rfl rfl ?_
    clear hF; intro a hF
    refine seq_skip hF (wn_f hF rfl rfl rfl rfl) rfl rfl ?_
    clear hF; intro a hF
    refine seq_skip hF (wn_f hF rfl rfl rfl rfl) rfl rfl ?_
    clear hF; intro a hF
    refine seq_skip hF (wn_f hF rfl rfl rfl rfl) rfl rfl ?_
    clear hF; intro a hF
    refine seq_skip hF (wn_f hF rfl rfl rfl rfl) rfl rfl ?_
    clear hF; intro a hF
    refine seq_skip hF (wn_f hF rfl rfl rfl rfl) rfl rfl ?_
    clear hF; intro a hF
    refine seq_yl hF (wn_none rfl) rfl rfl (yl_pick (u := _) (v := undef) hF rfl rfl (fun _ => rfl) (fun h => by cases h)) ?_
    clear hF; intro a hF
    refine wpList_nil ?_
    refine then_n ?_
    refine c_cond_t hF rfl ?_
    refine c_seq ?_
    refine c_region ?_
    refine seq_yl hF (wn_none rfl) rfl rfl (yl_build (parts := []) (vs := []) (cs := [_, _, _]) hF bd24 rfl rfl rfl rfl) ?_
    clear hF; intro a hF
    refine seq_wp (wn_none rfl) (wp_store (cs' := #[_, _, _]) hF hS rfl rfl rfl rfl 0 rfl sz24 (by simp [Value.cells, Value.oneCell']) (by simp [Value.cells]) rfl ?_)
    clear hF hS; intro a w hF hS
    refine seq_yl hF (wn_none rfl) rfl rfl (yl_assign hF rfl rfl) ?_
    clear hF; intro a hF
    refine wpList_nil ?_
    refine then_n ?_
    refine wp_ret ?_
    refine then_r ?_
    refine ret_ct hF rfl (resC hS rfl 0 rfl ag24 sz24) rfl ?_
    replace hS := hS.addNil 59 2
    exact ⟨_, rfl, _, _, [], _, _, rfl, wr_bad (fun h9 => by have h8 := h9.2; have h7 := okD_I h9.1; simp only [okW, okS, okI] at h8; first | exact absurd h9.1 (by assumption) | exact absurd h9.2.1 (by assumption) | omega), (hS.sub [0] (by decide) (by first | rfl | simp) (by simp))⟩
  · first | (replace hc138 := of_decide_eq_false hc138) | (replace hc138 := of_decide_eq_true (bnot_f hc138)) | (replace hc138 := bnot_f hc138) | skip
    try (have hc138x := hc138; simp only [okS, okI, okW, okP] at hc138x)
    refine seq_yl hF (wn_t hF rfl rfl rfl rfl) rfl rfl (yl_move hF rfl rfl) ?_
    clear hF; intro a hF
    refine seq_wp (wn_t hF rfl rfl rfl rfl) (wp_call (vs := [_]) hF rfl rfl rfl rfl cf47 (whole_any x _) ?_)
    clear hF; rintro _ w ⟨rfl, hS1⟩ a hF
    replace hS := hS.callB hS1 rfl; clear hS1
    refine seq_yl hF (wn_t hF rfl rfl rfl rfl) rfl rfl (yl_un hF rfl rfl (fun _ => run_not)) ?_
    clear hF; intro a hF
    refine seq_yl hF (wn_none rfl) rfl rfl (yl_pick (u := _) (v := undef) hF rfl rfl (fun h => by cases h) (fun _ => rfl)) ?_
    clear hF; intro a hF
    refine seq_yl hF (wn_none rfl) rfl rfl (yl_move hF rfl rfl) ?_
    clear hF; intro a hF
    refine fr_split hF (fun hc140 hF => ?_) (fun hc140 hF => ?_)
    · first | (replace hc140 := of_decide_eq_true hc140) | (replace hc140 := of_decide_eq_false (bnot_t hc140)) | (replace hc140 := bnot_t hc140) | skip
      try (have hc140x := hc140; simp only [okS, okI, okW, okP] at hc140x)
      refine seq_skip hF (wn_f hF rfl rfl rfl rfl) rfl rfl ?_
      clear hF; intro a hF
      refine seq_skip hF (wn_f hF rfl rfl rfl rfl) rfl rfl ?_
      clear hF; intro a hF
      refine seq_skip hF (wn_f hF rfl rfl rfl rfl) rfl rfl ?_
      clear hF; intro a hF
      refine seq_skip hF (wn_f hF rfl rfl rfl rfl) rfl rfl ?_
      clear hF; intro a hF
      refine seq_skip hF (wn_f hF rfl rfl rfl rfl) rfl rfl ?_
      clear hF; intro a hF
      refine seq_skip hF (wn_f hF rfl rfl rfl rfl) rfl rfl ?_
      clear hF; intro a hF
      refine seq_skip hF (wn_f hF rfl rfl rfl rfl) rfl rfl ?_
      clear hF; intro a hF
      refine seq_skip hF (wn_f hF rfl rfl rfl rfl) rfl rfl ?_
      clear hF; intro a hF
      refine seq_yl hF (wn_none rfl) rfl rfl (yl_pick (u := _) (v := undef) hF rfl rfl (fun _ => rfl) (fun h => by cases h)) ?_
      clear hF; intro a hF
      refine wpList_nil ?_
      refine then_n ?_
      refine c_cond_t hF rfl ?_
      refine c_seq ?_
      refine c_region ?_
      refine seq_yl hF (wn_none rfl) rfl rfl (yl_build (parts := []) (vs := []) (cs := [_, _, _]) hF bd24 rfl rfl rfl rfl) ?_
      clear hF; intro a hF
      refine seq_wp (wn_none rfl) (wp_store (cs' := #[_, _, _]) hF hS rfl rfl rfl rfl 0 rfl sz24 (by simp [Value.cells, Value.oneCell']) (by simp [Value.cells]) rfl ?_)
      clear hF hS; intro a w hF hS
      refine seq_yl hF (wn_none rfl) rfl rfl (yl_assign hF rfl rfl) ?_
      clear hF; intro a hF
      refine wpList_nil ?_
      refine then_n ?_
      refine wp_ret ?_
      refine then_r ?_
      refine ret_ct hF rfl (resC hS rfl 0 rfl ag24 sz24) rfl ?_
      replace hS := hS.addNil 59 2
      exact ⟨_, rfl, _, _, [], _, _, rfl, wr_bad (fun h9 => by have h8 := h9.2; have h7 := okD_I h9.1; simp only [okW, okS, okI] at h8; first | exact absurd h9.1 (by assumption) | exact absurd h9.2.1 (by assumption) | omega), (hS.sub [0] (by decide) (by first | rfl | simp) (by simp))⟩
    · first | (replace hc140 := of_decide_eq_false hc140) | (replace hc140 := of_decide_eq_true (bnot_f hc140)) | (replace hc140 := bnot_f hc140) | skip
      try (have hc140x := hc140; simp only [okS, okI, okW, okP] at hc140x)
      refine seq_yl hF (wn_t hF rfl rfl rfl rfl) rfl rfl (yl_move hF rfl rfl) ?_
      clear hF; intro a hF
      refine seq_yl hF (wn_t hF rfl rfl rfl rfl) rfl rfl (yl_move hF rfl rfl) ?_
      clear hF; intro a hF
      refine seq_yl hF (wn_t hF rfl rfl rfl rfl) rfl rfl (yl_len hF rfl rfl (fun _ => run_lenStr Try.underlying9)) ?_
      clear hF; intro a hF
      refine seq_yl hF (wn_t hF rfl rfl rfl rfl) rfl rfl (yl_bin hF rfl rfl rfl rfl (fun _ => run_quoN (by omega) (by omega) (by omega))) ?_
      clear hF; intro a hF
      refine seq_yl hF (wn_t hF rfl rfl rfl rfl) rfl rfl (yl_loadK (rs := [_, _, _]) (fun _ h => h ▸ hS) hF rfl rfl 1 rfl ag24 sz24 rfl rfl) ?_
      clear hF; intro a hF
      refine seq_wp (wn_t hF rfl rfl rfl rfl) (wp_call (vs := [_]) hF rfl rfl rfl rfl cf27 (secs_any st _ _ _ (by omega)) ?_)
      clear hF; rintro _ w ⟨rfl, hS1⟩ a hF
      replace hS := hS.callB hS1 rfl; clear hS1
      refine seq_wp (wn_t hF rfl rfl rfl rfl) (wp_call (vs := [_, _, _]) hF rfl rfl rfl rfl cf48 (in_any (s) (((((x).size : Nat) : Int) / (8 : Int))) ((((st).size : Int) / 8)) _ (by omega)) ?_)
      clear hF; rintro _ w ⟨rfl, hS1⟩ a hF
      replace hS := hS.callB hS1 rfl; clear hS1
      refine seq_yl hF (wn_t hF rfl rfl rfl rfl) rfl rfl (yl_un hF rfl rfl (fun _ => run_not)) ?_
      clear hF; intro a hF
      refine seq_yl hF (wn_none rfl) rfl rfl (yl_pick (u := _) (v := undef) hF rfl rfl (fun h => by cases h) (fun _ => rfl)) ?_
      clear hF; intro a hF
      refine wpList_nil ?_
      refine then_n ?_
      refine c_cond hF rfl (fun hc142 => ?_) (fun hc142 => ?_)
      · first | (replace hc142 := of_decide_eq_true hc142) | (replace hc142 := of_decide_eq_false (bnot_t hc142)) | (replace hc142 := bnot_t hc142) | skip
        try (have hc142x := hc142; simp only [okS, okI, okW, okP] at hc142x)
        refine c_seq ?_
        refine c_region ?_
        refine seq_yl hF (wn_none rfl) rfl rfl (yl_build (parts := []) (vs := []) (cs := [_, _, _]) hF bd24 rfl rfl rfl rfl) ?_
        clear hF; intro a hF
        refine seq_wp (wn_none rfl) (wp_store (cs' := #[_, _, _]) hF hS rfl rfl rfl rfl 0 rfl sz24 (by simp [Value.cells, Value.oneCell']) (by simp [Value.cells]) rfl ?_)
        clear hF hS; intro a w hF hS
        refine seq_yl hF (wn_none rfl) rfl rfl (yl_assign hF rfl rfl) ?_
        clear hF; intro a hF
        refine wpList_nil ?_
        refine then_n ?_
        refine wp_ret ?_
        refine then_r ?_
        refine ret_ct hF rfl (resC hS rfl 0 rfl ag24 sz24) rfl ?_
        replace hS := hS.addNil 59 2
        exact ⟨_, rfl, _, _, [], _, _, rfl, wr_bad (fun h9 => by have h8 := h9.2; have h7 := okD_I h9.1; simp only [okW, okS, okI] at h8; first | exact absurd h9.1 (by assumption) | exact absurd h9.2.1 (by assumption) | omega), (hS.sub [0] (by decide) (by first | rfl | simp) (by simp))⟩
      · first | (replace hc142 := of_decide_eq_false hc142) | (replace hc142 := of_decide_eq_true (bnot_f hc142)) | (replace hc142 := bnot_f hc142) | skip
        try (have hc142x := hc142; simp only [okS, okI, okW, okP] at hc142x)
        refine wp_skip ?_
        refine then_n ?_
        refine c_seq ?_
        refine c_seq ?_
        refine c_region ?_
        refine seq_yl hF (wn_none rfl) rfl rfl (yl_assign hF rfl rfl) ?_
        clear hF; intro a hF
        refine wpList_nil ?_
        refine then_n ?_
        refine wp_block ?_
        have hd9 : okD st L rm := by assumption
        have hw9 : okW (st.size : Int) s (x.size : Int) := by have h8 := okD_I hd9; unfold okW okS okI; first | omega | (refine ⟨by assumption, by omega⟩)
        have hw9x := hw9
        simp only [okW, okS, okI] at hw9x
        refine c_loop (fun m a w => ∃ (k : Nat) (st1 : ByteArray) (L1 : List E59) (AvW : Option Addr) (cvW : Nat) (ow : Bool), m = ((x.size : Int) / 8 - (k : Int)).toNat ∧ ((k : Int) ≤ (x.size : Int) / 8 ∧ wrN st L rm s x fua k = (st1, L1) ∧ (k ≠ 0 → ow = true)) ∧ Fr 95 a [(1, .int .i64 (s)), (2, .string x), (3, .bool fua), (4, .pointer (some ⟨g136, 0, none⟩)), (8, .pointer (some ⟨g137, 0, none⟩)), (10, .int .i64 ((k : Nat) : Int))] ∧ Sat w0 w (.box g136 24 #[.string st1, .slice AvW (L1).length cvW, .int .i64 (rm)] :: .box g137 24 #[.string (⟨#[]⟩ : ByteArray), .slice none 0 0, .int .i64 (0 : Int)] :: pickC ow 59 2 (.slice AvW (L1).length cvW) (L1).length (cells enc59 (L1)) :: [])) (((x.size : Int) / 8 - ((0 : Nat) : Int)).toNat) ?_ ?_
        · exact ⟨0, st, L, Alv, clv, false, rfl, ⟨by omega, rfl, fun h9 => absurd rfl h9⟩, hF.to [1, 2, 3, 4, 8, 10] rfl, (hS.sub [1, 0, 2] (by decide) (by first | rfl | simp) (by simp))⟩
        · clear hF hS; try clear hSS
          clear a w; rintro m a w ⟨k, st1, L1, AvW, cvW, ow, rfl, hinv, hF, hS⟩
          obtain ⟨hk, hw, how⟩ := hinv
          have hok := wrN_ok (fua := fua) hd9 hw9 k (by omega)
          rw [hw] at hok; dsimp only at hok
          obtain ⟨hd1, hs1⟩ := hok
          have hd1i := okD_I hd1
          have hS0 := hS; replace hS := hS.pickRo 2 rfl
          refine c_seq ?_
          refine c_seq ?_
          refine c_region ?_
          refine seq_yl hF (wn_none rfl) rfl rfl (yl_move hF rfl rfl) ?_
          clear hF; intro a hF
          refine seq_yl hF (wn_none rfl) rfl rfl (yl_move hF rfl rfl) ?_
          clear hF; intro a hF
          refine seq_yl hF (wn_none rfl) rfl rfl (yl_len hF rfl rfl (fun _ => run_lenStr Try.underlying9)) ?_
          clear hF; intro a hF
          refine seq_yl hF (wn_none rfl) rfl rfl (yl_bin hF rfl rfl rfl rfl (fun _ => run_quoN (by omega) (by omega) (by omega))) ?_
          clear hF; intro a hF
          refine seq_yl hF (wn_none rfl) rfl rfl (yl_bin hF rfl rfl rfl rfl (fun _ => run_lss)) ?_
          clear hF; intro a hF
          refine wpList_nil ?_
          refine then_n ?_
          refine c_cond hF rfl (fun hc144 => ?_) (fun hc144 => ?_)
          · first | (replace hc144 := of_decide_eq_true hc144) | (replace hc144 := of_decide_eq_false (bnot_t hc144)) | (replace hc144 := bnot_t hc144) | skip
            try (have hc144x := hc144; simp only [okS, okI, okW, okP] at hc144x)
            refine wp_skip ?_
            refine then_n ?_
            refine c_seq ?_
            refine wp_block ?_
            refine c_seq ?_
            refine c_region ?_
            refine seq_yl hF (wn_none rfl) rfl rfl (yl_move hF rfl rfl) ?_
            clear hF; intro a hF
            refine seq_yl hF (wn_none rfl) rfl rfl (yl_move hF rfl rfl) ?_
            clear hF; intro a hF
            refine seq_yl hF (wn_none rfl) rfl rfl (yl_bin hF rfl rfl rfl rfl (fun _ => run_add (by refine ⟨?_, ?_⟩ <;> omega))) ?_
            clear hF; intro a hF
            refine seq_yl hF (wn_none rfl) rfl rfl (yl_move hF rfl rfl) ?_
            clear hF; intro a hF
            refine seq_yl hF (wn_none rfl) rfl rfl (yl_move hF rfl rfl) ?_
            clear hF; intro a hF
            refine seq_yl hF (wn_none rfl) rfl rfl (yl_bin hF rfl rfl rfl rfl (fun _ => run_mul (by refine ⟨?_, ?_⟩ <;> omega))) ?_
            clear hF; intro a hF
            refine seq_yl hF (wn_none rfl) rfl rfl (yl_move hF rfl rfl) ?_
            clear hF; intro a hF
            refine seq_yl hF (wn_none rfl) rfl rfl (yl_bin hF rfl rfl rfl rfl (fun _ => run_inc (by omega))) ?_
            clear hF; intro a hF
            refine seq_yl hF (wn_none rfl) rfl rfl (yl_bin hF rfl rfl rfl rfl (fun _ => run_mul (by refine ⟨?_, ?_⟩ <;> omega))) ?_
            clear hF; intro a hF
            have hz145 := subs_size (s := x) (i := ((((k : Nat) : Int) * (8 : Int)))) (j := (((((k + 1) : Nat) : Int) * (8 : Int)))) (by omega) (by omega) (by omega)
            refine seq_yl hF (wn_none rfl) rfl rfl (yl_subsLH (s := x) (i := ((((k : Nat) : Int) * (8 : Int)))) (j := (((((k + 1) : Nat) : Int) * (8 : Int)))) hF rfl rfl rfl rfl Try.underlying9 (by omega) (by omega) (by omega)) ?_
            clear hF; intro a hF
            refine seq_yl hF (wn_none rfl) rfl rfl (yl_build (parts := [(0, .tmp 42), (1, .tmp 49)]) (vs := [(0, _), (1, _)]) (cs := [_, _]) hF bd59 rfl rfl rfl rfl) ?_
            clear hF; intro a hF
            refine seq_wp (wn_none rfl) (wp_alloc (cs := #[_, _]) hF hS rfl rfl rfl zr59 rfl ?_)
            clear hF hS; intro a w g146 hF hS
            refine seq_wp (wn_none rfl) (wp_store (cs' := #[_, _]) hF hS rfl rfl rfl rfl 0 rfl sz59 (by simp [Value.cells, Value.oneCell']) (by simp [Value.cells]) rfl ?_)
            clear hF hS; intro a w hF hS
            refine wpList_nil ?_
            refine then_n ?_
            refine c_seq ?_
            refine c_seq ?_
            refine c_region ?_
            refine seq_yl hF (wn_none rfl) rfl rfl (yl_move hF rfl rfl) ?_
            clear hF; intro a hF
            refine seq_yl hF (wn_none rfl) rfl rfl (yl_move hF rfl rfl) ?_
            clear hF; intro a hF
            refine fr_split hF (fun hc147 hF => ?_) (fun hc147 hF => ?_)
            · first | (replace hc147 := of_decide_eq_true hc147) | (replace hc147 := of_decide_eq_false (bnot_t hc147)) | (replace hc147 := bnot_t hc147) | skip
              try (have hc147x := hc147; simp only [okS, okI, okW, okP] at hc147x)
              refine seq_skip hF (wn_f hF rfl rfl rfl rfl) rfl rfl ?_
              clear hF; intro a hF
              refine seq_skip hF (wn_f hF rfl rfl rfl rfl) rfl rfl ?_
              clear hF; intro a hF
              refine seq_skip hF (wn_f hF rfl rfl rfl rfl) rfl rfl ?_
              clear hF; intro a hF
              refine seq_yl hF (wn_none rfl) rfl rfl (yl_pick (u := _) (v := undef) hF rfl rfl (fun _ => rfl) (fun h => by cases h)) ?_
              clear hF; intro a hF
              refine wpList_nil ?_
              refine then_n ?_
              refine c_cond_t hF rfl ?_
              refine c_seq ?_
              refine c_region ?_
              refine seq_yl hF (wn_none rfl) rfl rfl (yl_fieldAddr hF rfl rfl (fun w => by kernel_rfl : ∀ w, (Instr.fieldAt 24 (.pointer (some ⟨g136, 0, none⟩)) 0).run Try.prog w = .ok (.pointer (some ⟨g136, 0, none⟩)) w)) ?_
              clear hF; intro a hF
              refine seq_yl hF (wn_none rfl) rfl rfl (yl_load (fun _ h => h ▸ hS) hF rfl rfl 1 rfl ag9 rfl) ?_
              clear hF; intro a hF
              refine seq_yl hF (wn_none rfl) rfl rfl (yl_fieldAddr hF rfl rfl (fun w => by kernel_rfl : ∀ w, (Instr.fieldAt 59 (.pointer (some ⟨g146, 0, none⟩)) 0).run Try.prog w = .ok (.pointer (some ⟨g146, 0, none⟩)) w)) ?_
              clear hF; intro a hF
              refine seq_yl hF (wn_none rfl) rfl rfl (yl_load (fun _ h => h ▸ hS) hF rfl rfl 0 rfl ag3 rfl) ?_
              clear hF; intro a hF
              refine seq_yl hF (wn_none rfl) rfl rfl (yl_fieldAddr hF rfl rfl (fun w => by kernel_rfl : ∀ w, (Instr.fieldAt 59 (.pointer (some ⟨g146, 0, none⟩)) 1).run Try.prog w = .ok (.pointer (some ⟨g146, 1, none⟩)) w)) ?_
              clear hF; intro a hF
              refine seq_yl hF (wn_none rfl) rfl rfl (yl_load (fun _ h => h ▸ hS) hF rfl rfl 0 rfl ag9 rfl) ?_
              clear hF; intro a hF
              refine seq_wp (wn_none rfl) (wp_call (vs := [_, _, _]) hF rfl rfl rfl rfl cf23 (imWrite2_any st1 (((s) + ((k : Nat) : Int))) (subs x ((((k : Nat) : Int) * (8 : Int))) (((((k + 1) : Nat) : Int) * (8 : Int)))) _ (by omega) (by omega)) ?_)
              clear hF; rintro _ w ⟨xs148, e149, rfl, hsp150, hS1⟩ a hF
              replace hS := hS.callB hS1 rfl; clear hS1
              have hsp150z := fun h9 : okW ((st1).size : Int) (((s) + ((k : Nat) : Int))) (((subs x ((((k : Nat) : Int) * (8 : Int))) (((((k + 1) : Nat) : Int) * (8 : Int))))).size : Int) => wim_size (im := st1) (s := (((s) + ((k : Nat) : Int)))) (x := (subs x ((((k : Nat) : Int) * (8 : Int))) (((((k + 1) : Nat) : Int) * (8 : Int))))) h9
              obtain ⟨hk151, rfl, rfl⟩ := hsp150.resolve_right (fun h9 => h9.1 (okW_of (by unfold okS okI; omega) (by omega)))
              try (have hk151x := hk151; simp only [okS, okI, okW, okP] at hk151x)
              refine seq_yl hF (wn_none rfl) rfl rfl (yl_move hF rfl rfl) ?_
              clear hF; intro a hF
              refine seq_yl hF (wn_none rfl) rfl rfl (yl_extract hF rfl rfl rfl) ?_
              clear hF; intro a hF
              refine seq_yl hF (wn_none rfl) rfl rfl (yl_extract hF rfl rfl rfl) ?_
              clear hF; intro a hF
              refine seq_yl hF (wn_none rfl) rfl rfl (yl_assign hF rfl rfl) ?_
              clear hF; intro a hF
              refine seq_yl hF (wn_none rfl) rfl rfl (yl_assign hF rfl rfl) ?_
              clear hF; intro a hF
              refine wpList_nil ?_
              refine then_n ?_
              refine c_seq ?_
              refine ha_startS hS [1, 0] 9 (by kernel_rfl) ?_; clear hS; intro w hS
              have hSS := hS.sub [1, 0] (by decide) rfl (by simp)
              refine ha_y 0 hF rfl rfl rfl (wn_none rfl) (.inr hSS) (yl_move hF rfl rfl) ?_
              clear hF; intro a hF
              refine ha_y 1 hF rfl rfl rfl (wn_none rfl) (.inr hSS) (yl_fieldAddr hF rfl rfl (fun w => by kernel_rfl : ∀ w, (Instr.fieldAt 24 (.pointer (some ⟨g136, 0, none⟩)) 1).run Try.prog w = .ok (.pointer (some ⟨g136, 1, none⟩)) w)) ?_
              clear hF; intro a hF
              refine ha_y 3 hF rfl rfl rfl (wn_none rfl) (.inr hSS) (yl_fieldAddr hF rfl rfl (fun w => by kernel_rfl : ∀ w, (Instr.fieldAt 59 (.pointer (some ⟨g146, 0, none⟩)) 0).run Try.prog w = .ok (.pointer (some ⟨g146, 0, none⟩)) w)) ?_
              clear hF; intro a hF
              refine ha_y 6 hF rfl rfl rfl (wn_none rfl) (.inr hSS) (yl_fieldAddr hF rfl rfl (fun w => by kernel_rfl : ∀ w, (Instr.fieldAt 24 (.pointer (some ⟨g136, 0, none⟩)) 2).run Try.prog w = .ok (.pointer (some ⟨g136, 2, none⟩)) w)) ?_
              clear hF; intro a hF
              refine ha_l 2 hF rfl rfl rfl (wn_none rfl) hSS (yl_load (fun _ h => h) hF rfl rfl 0 rfl ag22 rfl) ?_
              clear hF; intro a hF
              refine ha_l 4 hF rfl rfl rfl (wn_none rfl) hSS (yl_load (fun _ h => h) hF rfl rfl 1 rfl ag3 rfl) ?_
              clear hF; intro a hF
              refine ha_l 7 hF rfl rfl rfl (wn_none rfl) hSS (yl_load (fun _ h => h) hF rfl rfl 0 rfl ag3 rfl) ?_
              clear hF; intro a hF
              refine ha_one 5 (by kernel_rfl) rfl (wn_none rfl) (wp_call (vs := [_, _]) hF rfl rfl rfl rfl cf50 (without_any _ L1 (((s) + ((k : Nat) : Int))) _ (hS.rdRo 3 rfl) (by omega)) ?_)
              clear hF; rintro _ w ⟨v152, rfl, hS1⟩ a hF
              replace hS := hS.callB hS1 rfl; clear hS1
              obtain ⟨Av152, cv152, rfl⟩ := hS.form 0 rfl
              have hls153 := len_selL (s := (((s) + ((k : Nat) : Int)))) (old := (fun _ => true)) L1 0
              replace hSS := hS.sub [2, 1] (by decide) rfl (by simp)
              refine ⟨.inr hSS, ?_⟩
              refine ha_y 8 hF rfl rfl rfl (wn_none rfl) (.inr hSS) (yl_build (parts := [(0, .tmp 67), (1, .tmp 72), (2, .tmp 74)]) (vs := [(0, _), (1, _), (2, _)]) (cs := [_, _, _]) hF bd24 rfl rfl rfl rfl) ?_
              clear hF; intro a hF
              refine ha_one 9 (by kernel_rfl) rfl (wn_none rfl) (wp_store (cs' := #[_, _, _]) hF hS rfl rfl rfl rfl 2 rfl sz24 (by simp [Value.cells, Value.oneCell']) (by simp [Value.cells]) rfl ?_)
              clear hF hS; intro a w hF hS
              refine ⟨.inl (by kernel_rfl), ?_⟩
              refine ha_done (by kernel_rfl) ?_ _
              refine then_n ?_
              refine wp_exit ?_
              refine then_x ?_
              refine inb_x ?_
              refine then_n ?_
              refine c_region ?_
              refine seq_yl hF (wn_none rfl) rfl rfl (yl_move hF rfl rfl) ?_
              clear hF; intro a hF
              refine seq_yl hF (wn_none rfl) rfl rfl (yl_bin hF rfl rfl rfl rfl (fun _ => run_inc (by omega))) ?_
              clear hF; intro a hF
              refine seq_yl hF (wn_none rfl) rfl rfl (yl_assign hF rfl rfl) ?_
              clear hF; intro a hF
              refine wpList_nil ?_
              refine then_n ?_
              have hp1 : put1 st1 L1 rm (s + (k : Int)) (subs x ((k : Int) * 8) (((k + 1 : Nat) : Int) * 8)) fua = ((wim st1 (((s) + ((k : Nat) : Int))) (subs x ((((k : Nat) : Int) * (8 : Int))) (((((k + 1) : Nat) : Int) * (8 : Int))))), (selL (((s) + ((k : Nat) : Int))) (fun _ => true) 0 L1)) := put1_1 (by first | exact .inl (by assumption) | exact .inr (by assumption))
              exact ⟨_, (by omega), k + 1, (wim st1 (((s) + ((k : Nat) : Int))) (subs x ((((k : Nat) : Int) * (8 : Int))) (((((k + 1) : Nat) : Int) * (8 : Int))))), (selL (((s) + ((k : Nat) : Int))) (fun _ => true) 0 L1), Av152, cv152, true, rfl, ⟨by omega, wrN_succ hw hp1, fun _ => rfl⟩, hF.to [1, 2, 3, 4, 8, 10] rfl, (hS.sub [2, 3, 0] (by decide) (by first | rfl | simp) (by simp))⟩
            · first | (replace hc147 := of_decide_eq_false hc147) | (replace hc147 := of_decide_eq_true (bnot_f hc147)) | (replace hc147 := bnot_f hc147) | skip
              try (have hc147x := hc147; simp only [okS, okI, okW, okP] at hc147x)
              refine seq_yl hF (wn_t hF rfl rfl rfl rfl) rfl rfl (yl_fieldAddr hF rfl rfl (fun w => by kernel_rfl : ∀ w, (Instr.fieldAt 24 (.pointer (some ⟨g136, 0, none⟩)) 2).run Try.prog w = .ok (.pointer (some ⟨g136, 2, none⟩)) w)) ?_
              clear hF; intro a hF
              refine seq_yl hF (wn_t hF rfl rfl rfl rfl) rfl rfl (yl_load (fun _ h => h ▸ hS) hF rfl rfl 1 rfl ag3 rfl) ?_
              clear hF; intro a hF
              refine seq_yl hF (wn_t hF rfl rfl rfl rfl) rfl rfl (yl_bin hF rfl rfl rfl rfl (fun _ => run_eql)) ?_
              clear hF; intro a hF
              refine seq_yl hF (wn_none rfl) rfl rfl (yl_pick (u := _) (v := undef) hF rfl rfl (fun h => by cases h) (fun _ => rfl)) ?_
              clear hF; intro a hF
              refine wpList_nil ?_
              refine then_n ?_
              refine c_cond hF rfl (fun hc154 => ?_) (fun hc154 => ?_)
              · first | (replace hc154 := of_decide_eq_true hc154) | (replace hc154 := of_decide_eq_false (bnot_t hc154)) | (replace hc154 := bnot_t hc154) | skip
                try (have hc154x := hc154; simp only [okS, okI, okW, okP] at hc154x)
                refine c_seq ?_
                refine c_region ?_
                refine seq_yl hF (wn_none rfl) rfl rfl (yl_fieldAddr hF rfl rfl (fun w => by kernel_rfl : ∀ w, (Instr.fieldAt 24 (.pointer (some ⟨g136, 0, none⟩)) 0).run Try.prog w = .ok (.pointer (some ⟨g136, 0, none⟩)) w)) ?_
                clear hF; intro a hF
                refine seq_yl hF (wn_none rfl) rfl rfl (yl_load (fun _ h => h ▸ hS) hF rfl rfl 1 rfl ag9 rfl) ?_
                clear hF; intro a hF
                refine seq_yl hF (wn_none rfl) rfl rfl (yl_fieldAddr hF rfl rfl (fun w => by kernel_rfl : ∀ w, (Instr.fieldAt 59 (.pointer (some ⟨g146, 0, none⟩)) 0).run Try.prog w = .ok (.pointer (some ⟨g146, 0, none⟩)) w)) ?_
                clear hF; intro a hF
                refine seq_yl hF (wn_none rfl) rfl rfl (yl_load (fun _ h => h ▸ hS) hF rfl rfl 0 rfl ag3 rfl) ?_
                clear hF; intro a hF
                refine seq_yl hF (wn_none rfl) rfl rfl (yl_fieldAddr hF rfl rfl (fun w => by kernel_rfl : ∀ w, (Instr.fieldAt 59 (.pointer (some ⟨g146, 0, none⟩)) 1).run Try.prog w = .ok (.pointer (some ⟨g146, 1, none⟩)) w)) ?_
                clear hF; intro a hF
                refine seq_yl hF (wn_none rfl) rfl rfl (yl_load (fun _ h => h ▸ hS) hF rfl rfl 0 rfl ag9 rfl) ?_
                clear hF; intro a hF
                refine seq_wp (wn_none rfl) (wp_call (vs := [_, _, _]) hF rfl rfl rfl rfl cf23 (imWrite2_any st1 (((s) + ((k : Nat) : Int))) (subs x ((((k : Nat) : Int) * (8 : Int))) (((((k + 1) : Nat) : Int) * (8 : Int)))) _ (by omega) (by omega)) ?_)
                clear hF; rintro _ w ⟨xs155, e156, rfl, hsp157, hS1⟩ a hF
                replace hS := hS.callB hS1 rfl; clear hS1
                have hsp157z := fun h9 : okW ((st1).size : Int) (((s) + ((k : Nat) : Int))) (((subs x ((((k : Nat) : Int) * (8 : Int))) (((((k + 1) : Nat) : Int) * (8 : Int))))).size : Int) => wim_size (im := st1) (s := (((s) + ((k : Nat) : Int)))) (x := (subs x ((((k : Nat) : Int) * (8 : Int))) (((((k + 1) : Nat) : Int) * (8 : Int))))) h9
                obtain ⟨hk158, rfl, rfl⟩ := hsp157.resolve_right (fun h9 => h9.1 (okW_of (by unfold okS okI; omega) (by omega)))
                try (have hk158x := hk158; simp only [okS, okI, okW, okP] at hk158x)
                refine seq_yl hF (wn_none rfl) rfl rfl (yl_move hF rfl rfl) ?_
                clear hF; intro a hF
                refine seq_yl hF (wn_none rfl) rfl rfl (yl_extract hF rfl rfl rfl) ?_
                clear hF; intro a hF
                refine seq_yl hF (wn_none rfl) rfl rfl (yl_extract hF rfl rfl rfl) ?_
                clear hF; intro a hF
                refine seq_yl hF (wn_none rfl) rfl rfl (yl_assign hF rfl rfl) ?_
                clear hF; intro a hF
                refine seq_yl hF (wn_none rfl) rfl rfl (yl_assign hF rfl rfl) ?_
                clear hF; intro a hF
                refine wpList_nil ?_
                refine then_n ?_
                refine c_seq ?_
                refine ha_startS hS [1, 0] 9 (by kernel_rfl) ?_; clear hS; intro w hS
                have hSS := hS.sub [1, 0] (by decide) rfl (by simp)
                refine ha_y 0 hF rfl rfl rfl (wn_none rfl) (.inr hSS) (yl_move hF rfl rfl) ?_
                clear hF; intro a hF
                refine ha_y 1 hF rfl rfl rfl (wn_none rfl) (.inr hSS) (yl_fieldAddr hF rfl rfl (fun w => by kernel_rfl : ∀ w, (Instr.fieldAt 24 (.pointer (some ⟨g136, 0, none⟩)) 1).run Try.prog w = .ok (.pointer (some ⟨g136, 1, none⟩)) w)) ?_
                clear hF; intro a hF
                refine ha_y 3 hF rfl rfl rfl (wn_none rfl) (.inr hSS) (yl_fieldAddr hF rfl rfl (fun w => by kernel_rfl : ∀ w, (Instr.fieldAt 59 (.pointer (some ⟨g146, 0, none⟩)) 0).run Try.prog w = .ok (.pointer (some ⟨g146, 0, none⟩)) w)) ?_
                clear hF; intro a hF
                refine ha_y 6 hF rfl rfl rfl (wn_none rfl) (.inr hSS) (yl_fieldAddr hF rfl rfl (fun w => by kernel_rfl : ∀ w, (Instr.fieldAt 24 (.pointer (some ⟨g136, 0, none⟩)) 2).run Try.prog w = .ok (.pointer (some ⟨g136, 2, none⟩)) w)) ?_
                clear hF; intro a hF
                refine ha_l 2 hF rfl rfl rfl (wn_none rfl) hSS (yl_load (fun _ h => h) hF rfl rfl 0 rfl ag22 rfl) ?_
                clear hF; intro a hF
                refine ha_l 4 hF rfl rfl rfl (wn_none rfl) hSS (yl_load (fun _ h => h) hF rfl rfl 1 rfl ag3 rfl) ?_
                clear hF; intro a hF
                refine ha_l 7 hF rfl rfl rfl (wn_none rfl) hSS (yl_load (fun _ h => h) hF rfl rfl 0 rfl ag3 rfl) ?_
                clear hF; intro a hF
                refine ha_one 5 (by kernel_rfl) rfl (wn_none rfl) (wp_call (vs := [_, _]) hF rfl rfl rfl rfl cf50 (without_any _ L1 (((s) + ((k : Nat) : Int))) _ (hS.rdRo 3 rfl) (by omega)) ?_)
                clear hF; rintro _ w ⟨v159, rfl, hS1⟩ a hF
                replace hS := hS.callB hS1 rfl; clear hS1
                obtain ⟨Av159, cv159, rfl⟩ := hS.form 0 rfl
                have hls160 := len_selL (s := (((s) + ((k : Nat) : Int)))) (old := (fun _ => true)) L1 0
                replace hSS := hS.sub [2, 1] (by decide) rfl (by simp)
                refine ⟨.inr hSS, ?_⟩
                refine ha_y 8 hF rfl rfl rfl (wn_none rfl) (.inr hSS) (yl_build (parts := [(0, .tmp 67), (1, .tmp 72), (2, .tmp 74)]) (vs := [(0, _), (1, _), (2, _)]) (cs := [_, _, _]) hF bd24 rfl rfl rfl rfl) ?_
                clear hF; intro a hF
                refine ha_one 9 (by kernel_rfl) rfl (wn_none rfl) (wp_store (cs' := #[_, _, _]) hF hS rfl rfl rfl rfl 2 rfl sz24 (by simp [Value.cells, Value.oneCell']) (by simp [Value.cells]) rfl ?_)
                clear hF hS; intro a w hF hS
                refine ⟨.inl (by kernel_rfl), ?_⟩
                refine ha_done (by kernel_rfl) ?_ _
                refine then_n ?_
                refine wp_exit ?_
                refine then_x ?_
                refine inb_x ?_
                refine then_n ?_
                refine c_region ?_
                refine seq_yl hF (wn_none rfl) rfl rfl (yl_move hF rfl rfl) ?_
                clear hF; intro a hF
                refine seq_yl hF (wn_none rfl) rfl rfl (yl_bin hF rfl rfl rfl rfl (fun _ => run_inc (by omega))) ?_
                clear hF; intro a hF
                refine seq_yl hF (wn_none rfl) rfl rfl (yl_assign hF rfl rfl) ?_
                clear hF; intro a hF
                refine wpList_nil ?_
                refine then_n ?_
                have hp1 : put1 st1 L1 rm (s + (k : Int)) (subs x ((k : Int) * 8) (((k + 1 : Nat) : Int) * 8)) fua = ((wim st1 (((s) + ((k : Nat) : Int))) (subs x ((((k : Nat) : Int) * (8 : Int))) (((((k + 1) : Nat) : Int) * (8 : Int))))), (selL (((s) + ((k : Nat) : Int))) (fun _ => true) 0 L1)) := put1_1 (by first | exact .inl (by assumption) | exact .inr (by assumption))
                exact ⟨_, (by omega), k + 1, (wim st1 (((s) + ((k : Nat) : Int))) (subs x ((((k : Nat) : Int) * (8 : Int))) (((((k + 1) : Nat) : Int) * (8 : Int))))), (selL (((s) + ((k : Nat) : Int))) (fun _ => true) 0 L1), Av159, cv159, true, rfl, ⟨by omega, wrN_succ hw hp1, fun _ => rfl⟩, hF.to [1, 2, 3, 4, 8, 10] rfl, (hS.sub [2, 3, 0] (by decide) (by first | rfl | simp) (by simp))⟩
              · first | (replace hc154 := of_decide_eq_false hc154) | (replace hc154 := of_decide_eq_true (bnot_f hc154)) | (replace hc154 := bnot_f hc154) | skip
                try (have hc154x := hc154; simp only [okS, okI, okW, okP] at hc154x)
                refine wp_skip ?_
                refine then_n ?_
                refine c_seq ?_
                refine c_seq ?_
                refine c_region ?_
                refine seq_yl hF (wn_none rfl) rfl rfl (yl_fieldAddr hF rfl rfl (fun w => by kernel_rfl : ∀ w, (Instr.fieldAt 24 (.pointer (some ⟨g136, 0, none⟩)) 1).run Try.prog w = .ok (.pointer (some ⟨g136, 1, none⟩)) w)) ?_
                clear hF; intro a hF
                refine seq_yl hF (wn_none rfl) rfl rfl (yl_load (fun _ h => h ▸ hS) hF rfl rfl 1 rfl ag22 rfl) ?_
                clear hF; intro a hF
                refine seq_yl hF (wn_none rfl) rfl rfl (yl_len hF rfl rfl (fun _ => run_lenRd sl22 (hS.rdRo 3 rfl))) ?_
                clear hF; intro a hF
                refine seq_yl hF (wn_none rfl) rfl rfl (yl_fieldAddr hF rfl rfl (fun w => by kernel_rfl : ∀ w, (Instr.fieldAt 24 (.pointer (some ⟨g136, 0, none⟩)) 2).run Try.prog w = .ok (.pointer (some ⟨g136, 2, none⟩)) w)) ?_
                clear hF; intro a hF
                refine seq_yl hF (wn_none rfl) rfl rfl (yl_load (fun _ h => h ▸ hS) hF rfl rfl 1 rfl ag3 rfl) ?_
                clear hF; intro a hF
                refine seq_yl hF (wn_none rfl) rfl rfl (yl_bin hF rfl rfl rfl rfl (fun _ => run_eql)) ?_
                clear hF; intro a hF
                refine wpList_nil ?_
                refine then_n ?_
                refine c_cond hF rfl (fun hc161 => ?_) (fun hc161 => ?_)
                · first | (replace hc161 := of_decide_eq_true hc161) | (replace hc161 := of_decide_eq_false (bnot_t hc161)) | (replace hc161 := bnot_t hc161) | skip
                  try (have hc161x := hc161; simp only [okS, okI, okW, okP] at hc161x)
                  refine c_region ?_
                  refine seq_yl hF (wn_none rfl) rfl rfl (yl_loadK (rs := [_, _, _]) (fun _ h => h ▸ hS) hF rfl rfl 1 rfl ag24 sz24 rfl rfl) ?_
                  clear hF; intro a hF
                  refine seq_wp (wn_none rfl) (wp_call (vs := [_, _]) hF rfl rfl rfl rfl cf32 (dest2_any st1 _ L1 (rm) (0 : Int) _ (hS.rdRo 3 rfl) (by first | omega | (simp; done)) (by first | omega | (simp; done))) ?_)
                  clear hF; rintro _ w ⟨st162, v163, Lq164, rm165, b166, rfl, hq167, hS1⟩ a hF
                  replace hS := hS.callB hS1 rfl; clear hS1
                  obtain ⟨Av163, cv163, rfl⟩ := hS.form 0 rfl
                  have hq167b := destF_bd hq167
                  obtain ⟨p168, hp168⟩ := get_some (L := L1) (k := 0) (by have h8 := okD_I hd1; omega)
                  have h8 := (destF_at hd1 hp168).symm.trans hq167; injection h8 with e1 h8; injection h8 with e2 h8; injection h8 with e3 e4; subst e1 e2 e3 e4
                  have hq167k := dest_ok hd1 hp168
                  have hq167f := fl_step (st := st1) hp168
                  have hq167n := len_selL (s := p168.f0) (old := (fun i => decide (i ≤ ((0 : Nat) : Int)))) L1 0
                  refine seq_yl hF (wn_none rfl) rfl rfl (yl_move hF rfl rfl) ?_
                  clear hF; intro a hF
                  refine seq_yl hF (wn_none rfl) rfl rfl (yl_extract hF rfl rfl rfl) ?_
                  clear hF; intro a hF
                  refine seq_yl hF (wn_none rfl) rfl rfl (yl_extract hF rfl rfl rfl) ?_
                  clear hF; intro a hF
                  refine seq_wp (wn_none rfl) (wp_store (cs' := #[_, _, _]) hF hS rfl rfl rfl rfl 2 rfl sz24 (by simp [Value.cells, Value.oneCell']) (by simp [Value.cells]) rfl ?_)
                  clear hF hS; intro a w hF hS
                  refine wpList_nil ?_
                  refine then_n ?_
                  refine ha_startS hS [2, 1] 7 (by kernel_rfl) ?_; clear hS; intro w hS
                  have hSS := hS.sub [2, 1] (by decide) rfl (by simp)
                  refine ha_y 0 hF rfl rfl rfl (wn_none rfl) (.inr hSS) (yl_fieldAddr hF rfl rfl (fun w => by kernel_rfl : ∀ w, (Instr.fieldAt 24 (.pointer (some ⟨g136, 0, none⟩)) 1).run Try.prog w = .ok (.pointer (some ⟨g136, 1, none⟩)) w)) ?_
                  clear hF; intro a hF
                  refine ha_l 1 hF rfl rfl rfl (wn_none rfl) hSS (yl_load (fun _ h => h) hF rfl rfl 0 rfl ag22 rfl) ?_
                  clear hF; intro a hF
                  refine ha_l 3 hF rfl rfl rfl (wn_none rfl) hSS (yl_loadK (rs := [_, _]) (fun _ h => h) hF rfl rfl 1 rfl ag59 sz59 rfl rfl) ?_
                  clear hF; intro a hF
                  refine ha_all (rs := [2, 4]) (by kernel_rfl) (by simp) ?_
                  refine List.forall_mem_cons.2 ⟨?_, List.forall_mem_cons.2 ⟨?_, (fun _ h => by cases h)⟩⟩
                  · skip
                    refine ha_op 2 rfl (wn_none rfl) (wp_app0 (enc := enc59) hF hS rfl rfl rfl rfl rfl sl22 inf59 rfl (by decide) (hS.rdRow 0 rfl) enc59_one (by decide) (by first | omega | (simp only [List.length_append, List.length_cons, List.length_nil]; omega) | (simp; omega)) ?_)
                    clear hF hS; intro a w v169 hF hS
                    obtain ⟨Av169, cv169, rfl⟩ := hS.form 0 rfl
                    replace hSS := hS.sub [3, 2] (by decide) rfl (by simp)
                    refine ⟨.inr hSS, ?_⟩
                    refine ha_one 4 (by kernel_rfl) rfl (wn_none rfl) (wp_bslice (parts := [(0, .tmp 90)]) (vs := [(0, _)]) (enc := enc59) (e := 59) (size := 2) (cs := #[.int .i64 (((s) + ((k : Nat) : Int))), .string (subs x ((((k : Nat) : Int) * (8 : Int))) (((((k + 1) : Nat) : Int) * (8 : Int))))]) hF hS rfl rfl rfl rfl ([(E59.mk (((s) + ((k : Nat) : Int))) (subs x ((((k : Nat) : Int) * (8 : Int))) (((((k + 1) : Nat) : Int) * (8 : Int)))))] : List E59) (fun w => by kernel_rfl) rfl rfl rfl (by decide) ?_)
                    clear hF hS; intro a w v170 hF hS
                    obtain ⟨Av170, cv170, rfl⟩ := hS.form 0 rfl
                    replace hSS := hS.sub [4, 3] (by decide) rfl (by simp)
                    refine ⟨.inr hSS, ?_⟩
                    refine ha_one 5 (by kernel_rfl) rfl (wn_none rfl) (wp_app (enc := enc59) hF hS rfl rfl rfl rfl rfl 1 rfl sl22 inf59 rfl (by decide) (hS.rdRow 0 rfl) enc59_one (by decide) (by first | omega | (simp only [List.length_append, List.length_cons, List.length_nil]; omega) | (simp; omega)) ?_)
                    clear hF hS; intro a w v171 hF hS
                    obtain ⟨Av171, cv171, rfl⟩ := hS.form 1 rfl
                    replace hSS := hS.sub [4, 3] (by decide) rfl (by simp)
                    refine ⟨.inr hSS, ?_⟩
                    refine ha_y 6 hF rfl rfl rfl (wn_none rfl) (.inr hSS) (yl_fieldAddr hF rfl rfl (fun w => by kernel_rfl : ∀ w, (Instr.fieldAt 24 (.pointer (some ⟨g136, 0, none⟩)) 1).run Try.prog w = .ok (.pointer (some ⟨g136, 1, none⟩)) w)) ?_
                    clear hF; intro a hF
                    refine ha_one 7 (by kernel_rfl) rfl (wn_none rfl) (wp_store (cs' := #[_, _, _]) hF hS rfl rfl rfl rfl 4 rfl sz22 (by simp [Value.cells, Value.oneCell']) (by simp [Value.cells]) rfl ?_)
                    clear hF hS; intro a w hF hS
                    refine ⟨.inl (by kernel_rfl), ?_⟩
                    refine ha_done (by kernel_rfl) ?_ _
                    refine inb_n ?_
                    refine then_n ?_
                    refine c_region ?_
                    refine seq_yl hF (wn_none rfl) rfl rfl (yl_move hF rfl rfl) ?_
                    clear hF; intro a hF
                    refine seq_yl hF (wn_none rfl) rfl rfl (yl_bin hF rfl rfl rfl rfl (fun _ => run_inc (by omega))) ?_
                    clear hF; intro a hF
                    refine seq_yl hF (wn_none rfl) rfl rfl (yl_assign hF rfl rfl) ?_
                    clear hF; intro a hF
                    refine wpList_nil ?_
                    refine then_n ?_
                    have hp1 : put1 st1 L1 rm (s + (k : Int)) (subs x ((k : Int) * 8) (((k + 1 : Nat) : Int) * 8)) fua = ((wim st1 p168.f0 p168.f1), ((selL p168.f0 (fun i => decide (i ≤ ((0 : Nat) : Int))) 0 L1) ++ ([(E59.mk (((s) + ((k : Nat) : Int))) (subs x ((((k : Nat) : Int) * (8 : Int))) (((((k + 1) : Nat) : Int) * (8 : Int)))))] : List E59))) := put1_2 (by assumption) (by omega) (by omega) hp168
                    exact ⟨_, (by omega), k + 1, (wim st1 p168.f0 p168.f1), ((selL p168.f0 (fun i => decide (i ≤ ((0 : Nat) : Int))) 0 L1) ++ ([(E59.mk (((s) + ((k : Nat) : Int))) (subs x ((((k : Nat) : Int) * (8 : Int))) (((((k + 1) : Nat) : Int) * (8 : Int)))))] : List E59)), Av171, cv171, true, rfl, ⟨by omega, wrN_succ hw hp1, fun _ => rfl⟩, hF.to [1, 2, 3, 4, 8, 10] rfl, (hS.sub [4, 5, 1] (by decide) (by first | rfl | simp) (by simp))⟩
                  · skip
                    refine ha_op 4 rfl (wn_none rfl) (wp_bslice (parts := [(0, .tmp 90)]) (vs := [(0, _)]) (enc := enc59) (e := 59) (size := 2) (cs := #[.int .i64 (((s) + ((k : Nat) : Int))), .string (subs x ((((k : Nat) : Int) * (8 : Int))) (((((k + 1) : Nat) : Int) * (8 : Int))))]) hF hS rfl rfl rfl rfl ([(E59.mk (((s) + ((k : Nat) : Int))) (subs x ((((k : Nat) : Int) * (8 : Int))) (((((k + 1) : Nat) : Int) * (8 : Int)))))] : List E59) (fun w => by kernel_rfl) rfl rfl rfl (by decide) ?_)
                    clear hF hS; intro a w v172 hF hS
                    obtain ⟨Av172, cv172, rfl⟩ := hS.form 0 rfl
                    replace hSS := hS.sub [3, 2] (by decide) rfl (by simp)
                    refine ⟨.inr hSS, ?_⟩
                    refine ha_one 2 (by kernel_rfl) rfl (wn_none rfl) (wp_app0 (enc := enc59) hF hS rfl rfl rfl rfl rfl sl22 inf59 rfl (by decide) (hS.rdRow 1 rfl) enc59_one (by decide) (by first | omega | (simp only [List.length_append, List.length_cons, List.length_nil]; omega) | (simp; omega)) ?_)
                    clear hF hS; intro a w v173 hF hS
                    obtain ⟨Av173, cv173, rfl⟩ := hS.form 0 rfl
                    replace hSS := hS.sub [4, 3] (by decide) rfl (by simp)
                    refine ⟨.inr hSS, ?_⟩
                    refine ha_one 5 (by kernel_rfl) rfl (wn_none rfl) (wp_app (enc := enc59) hF hS rfl rfl rfl rfl rfl 0 rfl sl22 inf59 rfl (by decide) (hS.rdRow 1 rfl) enc59_one (by decide) (by first | omega | (simp only [List.length_append, List.length_cons, List.length_nil]; omega) | (simp; omega)) ?_)
                    clear hF hS; intro a w v174 hF hS
                    obtain ⟨Av174, cv174, rfl⟩ := hS.form 0 rfl
                    replace hSS := hS.sub [4, 3] (by decide) rfl (by simp)
                    refine ⟨.inr hSS, ?_⟩
                    refine ha_y 6 hF rfl rfl rfl (wn_none rfl) (.inr hSS) (yl_fieldAddr hF rfl rfl (fun w => by kernel_rfl : ∀ w, (Instr.fieldAt 24 (.pointer (some ⟨g136, 0, none⟩)) 1).run Try.prog w = .ok (.pointer (some ⟨g136, 1, none⟩)) w)) ?_
                    clear hF; intro a hF
                    refine ha_one 7 (by kernel_rfl) rfl (wn_none rfl) (wp_store (cs' := #[_, _, _]) hF hS rfl rfl rfl rfl 4 rfl sz22 (by simp [Value.cells, Value.oneCell']) (by simp [Value.cells]) rfl ?_)
                    clear hF hS; intro a w hF hS
                    refine ⟨.inl (by kernel_rfl), ?_⟩
                    refine ha_done (by kernel_rfl) ?_ _
                    refine inb_n ?_
                    refine then_n ?_
                    refine c_region ?_
                    refine seq_yl hF (wn_none rfl) rfl rfl (yl_move hF rfl rfl) ?_
                    clear hF; intro a hF
                    refine seq_yl hF (wn_none rfl) rfl rfl (yl_bin hF rfl rfl rfl rfl (fun _ => run_inc (by omega))) ?_
                    clear hF; intro a hF
                    refine seq_yl hF (wn_none rfl) rfl rfl (yl_assign hF rfl rfl) ?_
                    clear hF; intro a hF
                    refine wpList_nil ?_
                    refine then_n ?_
                    have hp1 : put1 st1 L1 rm (s + (k : Int)) (subs x ((k : Int) * 8) (((k + 1 : Nat) : Int) * 8)) fua = ((wim st1 p168.f0 p168.f1), ((selL p168.f0 (fun i => decide (i ≤ ((0 : Nat) : Int))) 0 L1) ++ ([(E59.mk (((s) + ((k : Nat) : Int))) (subs x ((((k : Nat) : Int) * (8 : Int))) (((((k + 1) : Nat) : Int) * (8 : Int)))))] : List E59))) := put1_2 (by assumption) (by omega) (by omega) hp168
                    exact ⟨_, (by omega), k + 1, (wim st1 p168.f0 p168.f1), ((selL p168.f0 (fun i => decide (i ≤ ((0 : Nat) : Int))) 0 L1) ++ ([(E59.mk (((s) + ((k : Nat) : Int))) (subs x ((((k : Nat) : Int) * (8 : Int))) (((((k + 1) : Nat) : Int) * (8 : Int)))))] : List E59)), Av174, cv174, true, rfl, ⟨by omega, wrN_succ hw hp1, fun _ => rfl⟩, hF.to [1, 2, 3, 4, 8, 10] rfl, (hS.sub [4, 5, 0] (by decide) (by first | rfl | simp) (by simp))⟩
                · first | (replace hc161 := of_decide_eq_false hc161) | (replace hc161 := of_decide_eq_true (bnot_f hc161)) | (replace hc161 := bnot_f hc161) | skip
                  try (have hc161x := hc161; simp only [okS, okI, okW, okP] at hc161x)
                  refine wp_skip ?_
                  refine then_n ?_
                  refine ha_startS hS [1, 0] 7 (by kernel_rfl) ?_; clear hS; intro w hS
                  have hSS := hS.sub [1, 0] (by decide) rfl (by simp)
                  refine ha_y 0 hF rfl rfl rfl (wn_none rfl) (.inr hSS) (yl_fieldAddr hF rfl rfl (fun w => by kernel_rfl : ∀ w, (Instr.fieldAt 24 (.pointer (some ⟨g136, 0, none⟩)) 1).run Try.prog w = .ok (.pointer (some ⟨g136, 1, none⟩)) w)) ?_
                  clear hF; intro a hF
                  refine ha_l 1 hF rfl rfl rfl (wn_none rfl) hSS (yl_load (fun _ h => h) hF rfl rfl 0 rfl ag22 rfl) ?_
                  clear hF; intro a hF
                  refine ha_l 3 hF rfl rfl rfl (wn_none rfl) hSS (yl_loadK (rs := [_, _]) (fun _ h => h) hF rfl rfl 1 rfl ag59 sz59 rfl rfl) ?_
                  clear hF; intro a hF
                  refine ha_all (rs := [2, 4]) (by kernel_rfl) (by simp) ?_
                  refine List.forall_mem_cons.2 ⟨?_, List.forall_mem_cons.2 ⟨?_, (fun _ h => by cases h)⟩⟩
                  · skip
                    refine ha_op 2 rfl (wn_none rfl) (wp_app0 (enc := enc59) hF hS rfl rfl rfl rfl rfl sl22 inf59 rfl (by decide) (hS.rdRo 3 rfl) enc59_one (by decide) (by first | omega | (simp only [List.length_append, List.length_cons, List.length_nil]; omega) | (simp; omega)) ?_)
                    clear hF hS; intro a w v175 hF hS
                    obtain ⟨Av175, cv175, rfl⟩ := hS.form 0 rfl
                    replace hSS := hS.sub [2, 1] (by decide) rfl (by simp)
                    refine ⟨.inr hSS, ?_⟩
                    refine ha_one 4 (by kernel_rfl) rfl (wn_none rfl) (wp_bslice (parts := [(0, .tmp 90)]) (vs := [(0, _)]) (enc := enc59) (e := 59) (size := 2) (cs := #[.int .i64 (((s) + ((k : Nat) : Int))), .string (subs x ((((k : Nat) : Int) * (8 : Int))) (((((k + 1) : Nat) : Int) * (8 : Int))))]) hF hS rfl rfl rfl rfl ([(E59.mk (((s) + ((k : Nat) : Int))) (subs x ((((k : Nat) : Int) * (8 : Int))) (((((k + 1) : Nat) : Int) * (8 : Int)))))] : List E59) (fun w => by kernel_rfl) rfl rfl rfl (by decide) ?_)
                    clear hF hS; intro a w v176 hF hS
                    obtain ⟨Av176, cv176, rfl⟩ := hS.form 0 rfl
                    replace hSS := hS.sub [3, 2] (by decide) rfl (by simp)
                    refine ⟨.inr hSS, ?_⟩
                    refine ha_one 5 (by kernel_rfl) rfl (wn_none rfl) (wp_app (enc := enc59) hF hS rfl rfl rfl rfl rfl 1 rfl sl22 inf59 rfl (by decide) (hS.rdRow 0 rfl) enc59_one (by decide) (by first | omega | (simp only [List.length_append, List.length_cons, List.length_nil]; omega) | (simp; omega)) ?_)
                    clear hF hS; intro a w v177 hF hS
                    obtain ⟨Av177, cv177, rfl⟩ := hS.form 1 rfl
                    replace hSS := hS.sub [3, 2] (by decide) rfl (by simp)
                    refine ⟨.inr hSS, ?_⟩
                    refine ha_y 6 hF rfl rfl rfl (wn_none rfl) (.inr hSS) (yl_fieldAddr hF rfl rfl (fun w => by kernel_rfl : ∀ w, (Instr.fieldAt 24 (.pointer (some ⟨g136, 0, none⟩)) 1).run Try.prog w = .ok (.pointer (some ⟨g136, 1, none⟩)) w)) ?_
                    clear hF; intro a hF
                    refine ha_one 7 (by kernel_rfl) rfl (wn_none rfl) (wp_store (cs' := #[_, _, _]) hF hS rfl rfl rfl rfl 3 rfl sz22 (by simp [Value.cells, Value.oneCell']) (by simp [Value.cells]) rfl ?_)
                    clear hF hS; intro a w hF hS
                    refine ⟨.inl (by kernel_rfl), ?_⟩
                    refine ha_done (by kernel_rfl) ?_ _
                    refine inb_n ?_
                    refine then_n ?_
                    refine c_region ?_
                    refine seq_yl hF (wn_none rfl) rfl rfl (yl_move hF rfl rfl) ?_
                    clear hF; intro a hF
                    refine seq_yl hF (wn_none rfl) rfl rfl (yl_bin hF rfl rfl rfl rfl (fun _ => run_inc (by omega))) ?_
                    clear hF; intro a hF
                    refine seq_yl hF (wn_none rfl) rfl rfl (yl_assign hF rfl rfl) ?_
                    clear hF; intro a hF
                    refine wpList_nil ?_
                    refine then_n ?_
                    have hp1 : put1 st1 L1 rm (s + (k : Int)) (subs x ((k : Int) * 8) (((k + 1 : Nat) : Int) * 8)) fua = (st1, (L1 ++ ([(E59.mk (((s) + ((k : Nat) : Int))) (subs x ((((k : Nat) : Int) * (8 : Int))) (((((k + 1) : Nat) : Int) * (8 : Int)))))] : List E59))) := put1_3 (by assumption) (by omega) (by omega)
                    exact ⟨_, (by omega), k + 1, st1, (L1 ++ ([(E59.mk (((s) + ((k : Nat) : Int))) (subs x ((((k : Nat) : Int) * (8 : Int))) (((((k + 1) : Nat) : Int) * (8 : Int)))))] : List E59)), Av177, cv177, true, rfl, ⟨by omega, wrN_succ hw hp1, fun _ => rfl⟩, hF.to [1, 2, 3, 4, 8, 10] rfl, (hS.sub [3, 4, 1] (by decide) (by first | rfl | simp) (by simp))⟩
                  · skip
                    refine ha_op 4 rfl (wn_none rfl) (wp_bslice (parts := [(0, .tmp 90)]) (vs := [(0, _)]) (enc := enc59) (e := 59) (size := 2) (cs := #[.int .i64 (((s) + ((k : Nat) : Int))), .string (subs x ((((k : Nat) : Int) * (8 : Int))) (((((k + 1) : Nat) : Int) * (8 : Int))))]) hF hS rfl rfl rfl rfl ([(E59.mk (((s) + ((k : Nat) : Int))) (subs x ((((k : Nat) : Int) * (8 : Int))) (((((k + 1) : Nat) : Int) * (8 : Int)))))] : List E59) (fun w => by kernel_rfl) rfl rfl rfl (by decide) ?_)
                    clear hF hS; intro a w v178 hF hS
                    obtain ⟨Av178, cv178, rfl⟩ := hS.form 0 rfl
                    replace hSS := hS.sub [2, 1] (by decide) rfl (by simp)
                    refine ⟨.inr hSS, ?_⟩
                    refine ha_one 2 (by kernel_rfl) rfl (wn_none rfl) (wp_app0 (enc := enc59) hF hS rfl rfl rfl rfl rfl sl22 inf59 rfl (by decide) (hS.rdRo 4 rfl) enc59_one (by decide) (by first | omega | (simp only [List.length_append, List.length_cons, List.length_nil]; omega) | (simp; omega)) ?_)
                    clear hF hS; intro a w v179 hF hS
                    obtain ⟨Av179, cv179, rfl⟩ := hS.form 0 rfl
                    replace hSS := hS.sub [3, 2] (by decide) rfl (by simp)
                    refine ⟨.inr hSS, ?_⟩
                    refine ha_one 5 (by kernel_rfl) rfl (wn_none rfl) (wp_app (enc := enc59) hF hS rfl rfl rfl rfl rfl 0 rfl sl22 inf59 rfl (by decide) (hS.rdRow 1 rfl) enc59_one (by decide) (by first | omega | (simp only [List.length_append, List.length_cons, List.length_nil]; omega) | (simp; omega)) ?_)
                    clear hF hS; intro a w v180 hF hS
                    obtain ⟨Av180, cv180, rfl⟩ := hS.form 0 rfl
                    replace hSS := hS.sub [3, 2] (by decide) rfl (by simp)
                    refine ⟨.inr hSS, ?_⟩
                    refine ha_y 6 hF rfl rfl rfl (wn_none rfl) (.inr hSS) (yl_fieldAddr hF rfl rfl (fun w => by kernel_rfl : ∀ w, (Instr.fieldAt 24 (.pointer (some ⟨g136, 0, none⟩)) 1).run Try.prog w = .ok (.pointer (some ⟨g136, 1, none⟩)) w)) ?_
                    clear hF; intro a hF
                    refine ha_one 7 (by kernel_rfl) rfl (wn_none rfl) (wp_store (cs' := #[_, _, _]) hF hS rfl rfl rfl rfl 3 rfl sz22 (by simp [Value.cells, Value.oneCell']) (by simp [Value.cells]) rfl ?_)
                    clear hF hS; intro a w hF hS
                    refine ⟨.inl (by kernel_rfl), ?_⟩
                    refine ha_done (by kernel_rfl) ?_ _
                    refine inb_n ?_
                    refine then_n ?_
                    refine c_region ?_
                    refine seq_yl hF (wn_none rfl) rfl rfl (yl_move hF rfl rfl) ?_
                    clear hF; intro a hF
                    refine seq_yl hF (wn_none rfl) rfl rfl (yl_bin hF rfl rfl rfl rfl (fun _ => run_inc (by omega))) ?_
                    clear hF; intro a hF
                    refine seq_yl hF (wn_none rfl) rfl rfl (yl_assign hF rfl rfl) ?_
                    clear hF; intro a hF
                    refine wpList_nil ?_
                    refine then_n ?_
                    have hp1 : put1 st1 L1 rm (s + (k : Int)) (subs x ((k : Int) * 8) (((k + 1 : Nat) : Int) * 8)) fua = (st1, (L1 ++ ([(E59.mk (((s) + ((k : Nat) : Int))) (subs x ((((k : Nat) : Int) * (8 : Int))) (((((k + 1) : Nat) : Int) * (8 : Int)))))] : List E59))) := put1_3 (by assumption) (by omega) (by omega)
                    exact ⟨_, (by omega), k + 1, st1, (L1 ++ ([(E59.mk (((s) + ((k : Nat) : Int))) (subs x ((((k : Nat) : Int) * (8 : Int))) (((((k + 1) : Nat) : Int) * (8 : Int)))))] : List E59)), Av180, cv180, true, rfl, ⟨by omega, wrN_succ hw hp1, fun _ => rfl⟩, hF.to [1, 2, 3, 4, 8, 10] rfl, (hS.sub [3, 4, 0] (by decide) (by first | rfl | simp) (by simp))⟩
          · first | (replace hc144 := of_decide_eq_false hc144) | (replace hc144 := of_decide_eq_true (bnot_f hc144)) | (replace hc144 := bnot_f hc144) | skip
            try (have hc144x := hc144; simp only [okS, okI, okW, okP] at hc144x)
            refine wp_exit ?_
            refine then_x ?_
            refine then_x ?_
            refine inb_x ?_
            refine then_n ?_
            refine c_seq ?_
            refine c_region ?_
            obtain rfl := how (by omega); simp only [pickC] at hS0; replace hS := hS0
            refine seq_yl hF (wn_none rfl) rfl rfl (yl_loadK (rs := [_, _, _]) (fun _ h => h ▸ hS) hF rfl rfl 0 rfl ag24 sz24 rfl rfl) ?_
            clear hF; intro a hF
            refine seq_wp (wn_none rfl) (wp_store (cs' := #[_, _, _]) hF hS rfl rfl rfl rfl 1 rfl sz24 (by simp [Value.cells, Value.oneCell']) (by simp [Value.cells]) rfl ?_)
            clear hF hS; intro a w hF hS
            refine seq_yl hF (wn_none rfl) rfl rfl (yl_assign hF rfl rfl) ?_
            clear hF; intro a hF
            refine wpList_nil ?_
            refine then_n ?_
            refine wp_ret ?_
            refine ret_ct hF rfl (resC hS rfl 1 rfl ag24 sz24) rfl ?_
            exact ⟨_, rfl, _, _, _, _, _, rfl, wrN_end hw hd9 hw9 (by omega), (hS.sub [2] (by decide) (by first | rfl | simp) (by simp))⟩

end Go.Proofs.Ytlhcpeolkkadbaa

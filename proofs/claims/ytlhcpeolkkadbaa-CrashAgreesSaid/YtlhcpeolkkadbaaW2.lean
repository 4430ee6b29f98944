/- walks, printed by wip/gen -/
import Derived.Test.YtlhcpeolkkadbaaW1
namespace Go.Proofs.Ytlhcpeolkkadbaa
open Go.RowKit
set_option linter.unusedVariables false
set_option linter.unusedSimpArgs false

set_option maxRecDepth 100000 in
theorem vers_any (st : ByteArray) (lv : Value) (L : List E59) (rm : Int) (s : Int) (w0 : World) (hv : Rd w0 2 lv (L).length (cells enc59 (L))) (hz : (st.size : Int) ≤ 9223372036854775807) (hL : L.length ≤ 1000000) :
    Fn Try.prog 54 #[.agg #[.string st, lv, .int .i64 rm], .int .i64 s] w0 (fun v w' => ∃ (v1 : Value) (M : List ByteArray), v = v1 ∧ M = vers st L rm s ∧ Sat w0 w' [.row 9 1 v1 (M).length (cells encS (M))]) := by
  obtain ⟨Alv, clv, rfl⟩ := Rd.form hv
  refine c_enter (N := 44) (l := [_, _]) Try.func54 rfl rfl (fun a w hF hS => ?_)
  replace hS := hS.addRo hv
  refine c_seq ?_
  refine c_region ?_
  refine seq_wp (wn_none rfl) (wp_box (cs := #[_, _, _]) hF hS rfl rfl rfl rfl rfl ?_)
  clear hF hS; intro a w g60 hF hS
  refine seq_yl hF (wn_none rfl) rfl rfl (yl_assign hF rfl rfl) ?_
  clear hF; intro a hF
  refine wpList_nil ?_
  refine then_n ?_
  refine c_seq ?_
  refine c_region ?_
  refine seq_yl hF (wn_none rfl) rfl rfl (yl_fieldAddr hF rfl rfl (fun w => by kernel_rfl : ∀ w, (Instr.fieldAt 24 (.pointer (some ⟨g60, 0, none⟩)) 0).run Try.prog w = .ok (.pointer (some ⟨g60, 0, none⟩)) w)) ?_
  clear hF; intro a hF
  refine seq_yl hF (wn_none rfl) rfl rfl (yl_load (fun _ h => h ▸ hS) hF rfl rfl 0 rfl ag9 rfl) ?_
  clear hF; intro a hF
  refine seq_yl hF (wn_none rfl) rfl rfl (yl_move hF rfl rfl) ?_
  clear hF; intro a hF
  refine seq_wp (wn_none rfl) (wp_call (vs := [_, _, _]) hF rfl rfl rfl rfl cf42 (imRead_any st (s) (1 : Int) _ (by omega)) ?_)
  clear hF; rintro _ w ⟨xs61, e62, rfl, hsp63, hS1⟩ a hF
  replace hS := hS.callB hS1 rfl; clear hS1
  have hsp63z := fun h9 : okS ((st).size : Int) (s) (1 : Int) => subs_size (s := st) (i := (s) * 8) (j := ((s) + (1 : Int)) * 8) (by unfold okS at h9; omega) (by unfold okS at h9; omega) (by unfold okS okI at h9; omega)
  rcases hsp63 with ⟨hk64, rfl, rfl⟩ | ⟨hk64, rfl, rfl⟩ <;> (try (have hk64x := hk64; simp only [okS, okI, okW, okP] at hk64x))
  · skip
    refine seq_yl hF (wn_none rfl) rfl rfl (yl_move hF rfl rfl) ?_
    clear hF; intro a hF
    refine seq_yl hF (wn_none rfl) rfl rfl (yl_extract hF rfl rfl rfl) ?_
    clear hF; intro a hF
    refine seq_yl hF (wn_none rfl) rfl rfl (yl_extract hF rfl rfl rfl) ?_
    clear hF; intro a hF
    refine seq_yl hF (wn_none rfl) rfl rfl (yl_assign hF rfl rfl) ?_
    clear hF; intro a hF
    refine seq_yl hF (wn_none rfl) rfl rfl (yl_assign hF rfl rfl) ?_
    clear hF; intro a hF
    refine wpList_nil ?_
    refine then_n ?_
    refine c_seq ?_
    refine c_seq ?_
    refine c_region ?_
    refine seq_yl hF (wn_none rfl) rfl rfl (yl_move hF rfl rfl) ?_
    clear hF; intro a hF
    refine seq_yl hF (wn_none rfl) rfl rfl (yl_un hF rfl rfl (fun _ => run_not)) ?_
    clear hF; intro a hF
    refine seq_yl hF (wn_none rfl) rfl rfl (yl_move hF rfl rfl) ?_
    clear hF; intro a hF
    refine seq_yl hF (wn_t hF rfl rfl rfl rfl) rfl rfl (yl_loadK (rs := [_, _, _]) (fun _ h => h ▸ hS) hF rfl rfl 0 rfl ag24 sz24 rfl rfl) ?_
    clear hF; intro a hF
    refine seq_wp (wn_t hF rfl rfl rfl rfl) (wp_call (vs := [_]) hF rfl rfl rfl rfl cf51 (dValid_any st _ L (rm) _ (hS.rdRo 1 rfl) (by first | omega | (simp; done)) (by first | omega | (simp; done))) ?_)
    clear hF; rintro _ w ⟨rfl, hS1⟩ a hF
    replace hS := hS.callB hS1 rfl; clear hS1
    refine seq_yl hF (wn_t hF rfl rfl rfl rfl) rfl rfl (yl_un hF rfl rfl (fun _ => run_not)) ?_
    clear hF; intro a hF
    refine seq_yl hF (wn_none rfl) rfl rfl (yl_pick (u := _) (v := undef) hF rfl rfl (fun h => by cases h) (fun _ => rfl)) ?_
    clear hF; intro a hF
    refine wpList_nil ?_
    refine then_n ?_
    refine c_cond hF rfl (fun hc65 => ?_) (fun hc65 => ?_)
    · first | (replace hc65 := of_decide_eq_true hc65) | (replace hc65 := of_decide_eq_false (bnot_t hc65)) | (subst hc65) | (replace hc65 := bnot_t hc65; subst hc65) | (replace hc65 := bnot_t hc65) | skip
      try (have hc65x := hc65; simp only [okS, okI, okW, okP] at hc65x)
      refine c_seq ?_
      refine c_region ?_
      refine seq_yl hF (wn_none rfl) rfl rfl (yl_assign hF rfl rfl) ?_
      clear hF; intro a hF
      refine wpList_nil ?_
      refine then_n ?_
      refine wp_ret ?_
      refine then_r ?_
      refine ret_t hF rfl rfl ?_
      replace hS := hS.addNil 9 1
      exact ⟨_, rfl, _, [], rfl, vers_no (fun h9 => by have h8 := h9.2; have h7 := okD_I h9.1; simp only [okW, okS, okI] at h8; first | exact absurd h9.1 (by assumption) | exact absurd h9.2 (by assumption) | omega), (hS.sub [0] (by decide) (by first | rfl | simp) (by simp))⟩
    · first | (replace hc65 := of_decide_eq_false hc65) | (replace hc65 := of_decide_eq_true (bnot_f hc65)) | (subst hc65) | (replace hc65 := bnot_f hc65; subst hc65) | (replace hc65 := bnot_f hc65) | skip
      try (have hc65x := hc65; simp only [okS, okI, okW, okP] at hc65x)
      refine wp_skip ?_
      refine then_n ?_
      refine c_seq ?_
      refine c_region ?_
      refine seq_yl hF (wn_none rfl) rfl rfl (yl_move hF rfl rfl) ?_
      clear hF; intro a hF
      refine seq_wp (wn_none rfl) (wp_bslice (parts := [(0, .tmp 24)]) (vs := [(0, _)]) (enc := encS) (e := 9) (size := 1) (cs := #[.string (subs st ((s) * 8) (((s) + (1 : Int)) * 8))]) hF hS rfl rfl rfl rfl ([(subs st ((s) * 8) (((s) + (1 : Int)) * 8))] : List ByteArray) (fun w => by kernel_rfl) rfl rfl rfl (by decide) ?_)
      clear hF hS; intro a w v67 hF hS
      obtain ⟨Av67, cv67, rfl⟩ := hS.form 0 rfl
      refine seq_yl hF (wn_none rfl) rfl rfl (yl_assign hF rfl rfl) ?_
      clear hF; intro a hF
      refine wpList_nil ?_
      refine then_n ?_
      refine c_seq ?_
      refine c_seq ?_
      refine c_region ?_
      refine seq_yl hF (wn_none rfl) rfl rfl (yl_fieldAddr hF rfl rfl (fun w => by kernel_rfl : ∀ w, (Instr.fieldAt 24 (.pointer (some ⟨g60, 0, none⟩)) 1).run Try.prog w = .ok (.pointer (some ⟨g60, 1, none⟩)) w)) ?_
      clear hF; intro a hF
      refine seq_yl hF (wn_none rfl) rfl rfl (yl_load (fun _ h => h ▸ hS) hF rfl rfl 1 rfl ag22 rfl) ?_
      clear hF; intro a hF
      refine seq_yl hF (wn_none rfl) rfl rfl (yl_len hF rfl rfl (fun _ => run_lenRd sl22 (hS.rdRo 2 rfl))) ?_
      clear hF; intro a hF
      refine seq_yl hF (wn_none rfl) rfl rfl (yl_move hF rfl rfl) ?_
      clear hF; intro a hF
      refine wpList_nil ?_
      refine then_n ?_
      refine wp_block ?_
      refine c_loop (fun m a w => ∃ (k : Nat) (AvR : Option Addr) (mv cvR : Nat), m = L.length - k ∧ (k ≤ L.length) ∧ Fr 44 a [(1, .int .i64 (s)), (7, .slice AvR mv cvR), (27, .slice Alv (L).length clv), (28, .int .i64 (((L).length : Nat) : Int)), (29, .int .i64 ((k : Nat) : Int))] ∧ Sat w0 w (.ro 2 (.slice Alv (L).length clv) (L).length (cells enc59 (L)) :: .row 9 1 (.slice AvR mv cvR) ((versC st (L.take k) s)).length (cells encS ((versC st (L.take k) s))) :: [])) (L.length - 0) ?_ ?_
      · exact ⟨0, Av67, _, cv67, rfl, (Nat.zero_le _), hF.to [1, 7, 27, 28, 29] rfl, (hS.sub [2, 0] (by decide) (by first | rfl | simp) (by simp))⟩
      · clear hF hS; try clear hSS
        clear a w; rintro m a w ⟨k, AvR, mv, cvR, rfl, hinv, hF, hS⟩
        have hk : k ≤ L.length := hinv
        have hvl := versC_len st (L.take k) s
        have htl : (L.take k).length ≤ L.length := by simp; omega
        refine c_seq ?_
        refine c_region ?_
        refine seq_yl hF (wn_none rfl) rfl rfl (yl_bin hF rfl rfl rfl rfl (fun _ => run_lss)) ?_
        clear hF; intro a hF
        refine wpList_nil ?_
        refine then_n ?_
        refine c_seq ?_
        refine c_cond hF rfl (fun hc68 => ?_) (fun hc68 => ?_)
        · first | (replace hc68 := of_decide_eq_true hc68) | (replace hc68 := of_decide_eq_false (bnot_t hc68)) | (subst hc68) | (replace hc68 := bnot_t hc68; subst hc68) | (replace hc68 := bnot_t hc68) | skip
          try (have hc68x := hc68; simp only [okS, okI, okW, okP] at hc68x)
          refine wp_skip ?_
          refine then_n ?_
          refine c_seq ?_
          refine wp_block ?_
          refine c_seq ?_
          refine c_region ?_
          have hlt_hx69 : k < (L).length := by first | omega | (simp; done) | (simp; omega)
          obtain ⟨ad70, rfl⟩ := rd_some (hS.rdRo 0 rfl) hlt_hx69
          obtain ⟨x69, hx69⟩ := get_some hlt_hx69
          refine seq_yl hF (wn_none rfl) rfl rfl (yl_indexAddr hF rfl rfl rfl (fun _ => run_idx' sl22 sz59 (hS.rdRo 0 rfl) hlt_hx69)) ?_
          clear hF; intro a hF
          refine seq_yl hF (wn_none rfl) rfl rfl (yl_loadEl (rs := [.int .i64 (x69.f0), .string x69.f1]) hF rfl rfl ag59 sz59 rfl (fun _ h => rd_cells (enc := enc59) (by subst h; exact hS.rdRo 0 rfl) enc59_len hx69)) ?_
          clear hF; intro a hF
          refine seq_wp (wn_none rfl) (wp_alloc (cs := #[_, _]) hF hS rfl rfl rfl zr59 rfl ?_)
          clear hF hS; intro a w g71 hF hS
          refine seq_wp (wn_none rfl) (wp_store (cs' := #[_, _]) hF hS rfl rfl rfl rfl 0 rfl sz59 (by simp [Value.cells, Value.oneCell']) (by simp [Value.cells]) rfl ?_)
          clear hF hS; intro a w hF hS
          refine wpList_nil ?_
          refine then_n ?_
          refine c_seq ?_
          refine c_region ?_
          refine seq_yl hF (wn_none rfl) rfl rfl (yl_fieldAddr hF rfl rfl (fun w => by kernel_rfl : ∀ w, (Instr.fieldAt 59 (.pointer (some ⟨g71, 0, none⟩)) 0).run Try.prog w = .ok (.pointer (some ⟨g71, 0, none⟩)) w)) ?_
          clear hF; intro a hF
          refine seq_yl hF (wn_none rfl) rfl rfl (yl_load (fun _ h => h ▸ hS) hF rfl rfl 0 rfl ag3 rfl) ?_
          clear hF; intro a hF
          refine seq_yl hF (wn_none rfl) rfl rfl (yl_move hF rfl rfl) ?_
          clear hF; intro a hF
          refine seq_yl hF (wn_none rfl) rfl rfl (yl_bin hF rfl rfl rfl rfl (fun _ => run_eql)) ?_
          clear hF; intro a hF
          refine wpList_nil ?_
          refine then_n ?_
          refine c_cond hF rfl (fun hc72 => ?_) (fun hc72 => ?_)
          · first | (replace hc72 := of_decide_eq_true hc72) | (replace hc72 := of_decide_eq_false (bnot_t hc72)) | (subst hc72) | (replace hc72 := bnot_t hc72; subst hc72) | (replace hc72 := bnot_t hc72) | skip
            try (have hc72x := hc72; simp only [okS, okI, okW, okP] at hc72x)
            refine c_region ?_
            refine seq_yl hF (wn_none rfl) rfl rfl (yl_move hF rfl rfl) ?_
            clear hF; intro a hF
            refine seq_yl hF (wn_none rfl) rfl rfl (yl_fieldAddr hF rfl rfl (fun w => by kernel_rfl : ∀ w, (Instr.fieldAt 59 (.pointer (some ⟨g71, 0, none⟩)) 1).run Try.prog w = .ok (.pointer (some ⟨g71, 1, none⟩)) w)) ?_
            clear hF; intro a hF
            refine seq_yl hF (wn_none rfl) rfl rfl (yl_load (fun _ h => h ▸ hS) hF rfl rfl 0 rfl ag9 rfl) ?_
            clear hF; intro a hF
            refine seq_wp (wn_none rfl) (wp_bslice (parts := [(0, .tmp 39)]) (vs := [(0, _)]) (enc := encS) (e := 9) (size := 1) (cs := #[.string x69.f1]) hF hS rfl rfl rfl rfl ([x69.f1] : List ByteArray) (fun w => by kernel_rfl) rfl rfl rfl (by decide) ?_)
            clear hF hS; intro a w v73 hF hS
            obtain ⟨Av73, cv73, rfl⟩ := hS.form 0 rfl
            refine seq_wp (wn_none rfl) (wp_app (enc := encS) hF hS rfl rfl rfl rfl rfl 3 rfl sl52 inf9 rfl (by decide) (hS.rdRow 0 rfl) encS_one (by decide) (by first | omega | (simp only [List.length_append, List.length_cons, List.length_nil]; omega) | (simp; omega)) ?_)
            clear hF hS; intro a w v74 hF hS
            obtain ⟨Av74, cv74, rfl⟩ := hS.form 3 rfl
            refine seq_yl hF (wn_none rfl) rfl rfl (yl_assign hF rfl rfl) ?_
            clear hF; intro a hF
            refine wpList_nil ?_
            refine inb_n ?_
            refine then_n ?_
            refine c_region ?_
            refine seq_yl hF (wn_none rfl) rfl rfl (yl_bin hF rfl rfl rfl rfl (fun _ => run_inc (by omega))) ?_
            clear hF; intro a hF
            refine seq_yl hF (wn_none rfl) rfl rfl (yl_move hF rfl rfl) ?_
            clear hF; intro a hF
            refine wpList_nil ?_
            refine then_n ?_
            rw [versC_in hx69 (by omega)] at hS hF
            exact ⟨_, (by omega), k + 1, Av74, _, cv74, rfl, (show _ ≤ _ by omega), hF.to [1, 7, 27, 28, 29] rfl, (hS.sub [2, 3] (by decide) (by first | rfl | simp) (by simp))⟩
          · first | (replace hc72 := of_decide_eq_false hc72) | (replace hc72 := of_decide_eq_true (bnot_f hc72)) | (subst hc72) | (replace hc72 := bnot_f hc72; subst hc72) | (replace hc72 := bnot_f hc72) | skip
            try (have hc72x := hc72; simp only [okS, okI, okW, okP] at hc72x)
            refine wp_skip ?_
            refine inb_n ?_
            refine then_n ?_
            refine c_region ?_
            refine seq_yl hF (wn_none rfl) rfl rfl (yl_bin hF rfl rfl rfl rfl (fun _ => run_inc (by omega))) ?_
            clear hF; intro a hF
            refine seq_yl hF (wn_none rfl) rfl rfl (yl_move hF rfl rfl) ?_
            clear hF; intro a hF
            refine wpList_nil ?_
            refine then_n ?_
            rw [versC_out hx69 (by omega)] at hS
            exact ⟨_, (by omega), k + 1, AvR, _, cvR, rfl, (show _ ≤ _ by omega), hF.to [1, 7, 27, 28, 29] rfl, (hS.sub [1, 2] (by decide) (by first | rfl | simp) (by simp))⟩
        · first | (replace hc68 := of_decide_eq_false hc68) | (replace hc68 := of_decide_eq_true (bnot_f hc68)) | (subst hc68) | (replace hc68 := bnot_f hc68; subst hc68) | (replace hc68 := bnot_f hc68) | skip
          try (have hc68x := hc68; simp only [okS, okI, okW, okP] at hc68x)
          refine wp_exit ?_
          refine then_x ?_
          refine then_x ?_
          refine inb_x ?_
          refine then_n ?_
          refine c_seq ?_
          refine c_region ?_
          refine seq_yl hF (wn_none rfl) rfl rfl (yl_move hF rfl rfl) ?_
          clear hF; intro a hF
          refine seq_yl hF (wn_none rfl) rfl rfl (yl_assign hF rfl rfl) ?_
          clear hF; intro a hF
          refine wpList_nil ?_
          refine then_n ?_
          refine wp_ret ?_
          refine ret_t hF rfl rfl ?_
          exact ⟨_, rfl, _, _, rfl, vers_yes (k := k) (‹okD st L rm› : okD st L rm) (by first | assumption | (have h8 := okD_I (‹okD st L rm› : okD st L rm); unfold okS okI; omega)) (by omega), (hS.sub [1] (by decide) (by first | rfl | simp) (by simp))⟩
  · skip
    refine seq_yl hF (wn_none rfl) rfl rfl (yl_move hF rfl rfl) ?_
    clear hF; intro a hF
    refine seq_yl hF (wn_none rfl) rfl rfl (yl_extract hF rfl rfl rfl) ?_
    clear hF; intro a hF
    refine seq_yl hF (wn_none rfl) rfl rfl (yl_extract hF rfl rfl rfl) ?_
    clear hF; intro a hF
    refine seq_yl hF (wn_none rfl) rfl rfl (yl_assign hF rfl rfl) ?_
    clear hF; intro a hF
    refine seq_yl hF (wn_none rfl) rfl rfl (yl_assign hF rfl rfl) ?_
    clear hF; intro a hF
    refine wpList_nil ?_
    refine then_n ?_
    refine c_seq ?_
    refine c_seq ?_
    refine c_region ?_
    refine seq_yl hF (wn_none rfl) rfl rfl (yl_move hF rfl rfl) ?_
    clear hF; intro a hF
    refine seq_yl hF (wn_none rfl) rfl rfl (yl_un hF rfl rfl (fun _ => run_not)) ?_
    clear hF; intro a hF
    refine seq_yl hF (wn_none rfl) rfl rfl (yl_move hF rfl rfl) ?_
    clear hF; intro a hF
    refine seq_skip hF (wn_f hF rfl rfl rfl rfl) rfl rfl ?_
    clear hF; intro a hF
    refine seq_skip hF (wn_f hF rfl rfl rfl rfl) rfl rfl ?_
    clear hF; intro a hF
    refine seq_skip hF (wn_f hF rfl rfl rfl rfl) rfl rfl ?_
    clear hF; intro a hF
    refine seq_yl hF (wn_none rfl) rfl rfl (yl_pick (u := _) (v := undef) hF rfl rfl (fun _ => rfl) (fun h => by cases h)) ?_
    clear hF; intro a hF
    refine wpList_nil ?_
    refine then_n ?_
    refine c_cond_t hF rfl ?_
    refine c_seq ?_
    refine c_region ?_
    refine seq_yl hF (wn_none rfl) rfl rfl (yl_assign hF rfl rfl) ?_
    clear hF; intro a hF
    refine wpList_nil ?_
    refine then_n ?_
    refine wp_ret ?_
    refine then_r ?_
    refine ret_t hF rfl rfl ?_
    replace hS := hS.addNil 9 1
    exact ⟨_, rfl, _, [], rfl, vers_no (fun h9 => by have h8 := h9.2; have h7 := okD_I h9.1; simp only [okW, okS, okI] at h8; first | exact absurd h9.1 (by assumption) | exact absurd h9.2 (by assumption) | omega), (hS.sub [0] (by decide) (by first | rfl | simp) (by simp))⟩

set_option maxRecDepth 100000 in
theorem vers2_any (st : ByteArray) (lv : Value) (L : List E59) (rm : Int) (s : Int) (w0 : World) (hv : Rd w0 2 lv (L).length (cells enc59 (L))) (hz : (st.size : Int) ≤ 9223372036854775807) (hL : L.length ≤ 1000000) :
    Fn Try.prog 30 #[.agg #[.string st, lv, .int .i64 rm], .int .i64 s] w0 (fun v w' => ∃ (v1 : Value) (M : List ByteArray), v = v1 ∧ M = vers st L rm s ∧ Sat w0 w' [.row 9 1 v1 (M).length (cells encS (M))]) := by
  obtain ⟨Alv, clv, rfl⟩ := Rd.form hv
  refine c_enter (N := 56) (l := [_, _]) Try.func30 rfl rfl (fun a w hF hS => ?_)
  replace hS := hS.addRo hv
  refine c_seq ?_
  refine c_region ?_
  refine seq_wp (wn_none rfl) (wp_box (cs := #[_, _, _]) hF hS rfl rfl rfl rfl rfl ?_)
  clear hF hS; intro a w g76 hF hS
  refine seq_yl hF (wn_none rfl) rfl rfl (yl_assign hF rfl rfl) ?_
  clear hF; intro a hF
  refine wpList_nil ?_
  refine then_n ?_
  refine c_seq ?_
  refine c_seq ?_
  refine c_region ?_
  refine seq_yl hF (wn_none rfl) rfl rfl (yl_loadK (rs := [_, _, _]) (fun _ h => h ▸ hS) hF rfl rfl 0 rfl ag24 sz24 rfl rfl) ?_
  clear hF; intro a hF
  refine seq_wp (wn_none rfl) (wp_call (vs := [_]) hF rfl rfl rfl rfl cf49 (dValid2_any st _ L (rm) _ (hS.rdRo 1 rfl) (by first | omega | (simp; done)) (by first | omega | (simp; done))) ?_)
  clear hF; rintro _ w ⟨rfl, hS1⟩ a hF
  replace hS := hS.callB hS1 rfl; clear hS1
  refine seq_yl hF (wn_none rfl) rfl rfl (yl_un hF rfl rfl (fun _ => run_not)) ?_
  clear hF; intro a hF
  refine seq_yl hF (wn_none rfl) rfl rfl (yl_move hF rfl rfl) ?_
  clear hF; intro a hF
  refine fr_split hF (fun hc77 hF => ?_) (fun hc77 hF => ?_)
  · first | (replace hc77 := of_decide_eq_true hc77) | (replace hc77 := of_decide_eq_false (bnot_t hc77)) | (subst hc77) | (replace hc77 := bnot_t hc77; subst hc77) | (replace hc77 := bnot_t hc77) | skip
    try (have hc77x := hc77; simp only [okS, okI, okW, okP] at hc77x)
    refine seq_skip hF (wn_f hF rfl rfl rfl rfl) rfl rfl ?_
    clear hF; intro a hF
    refine seq_skip hF (wn_f hF rfl rfl rfl rfl) rfl rfl ?_
    clear hF; intro a hF
    refine seq_yl hF (wn_none rfl) rfl rfl (yl_pick (u := _) (v := undef) hF rfl rfl (fun _ => rfl) (fun h => by cases h)) ?_
    clear hF; intro a hF
    refine seq_yl hF (wn_none rfl) rfl rfl (yl_move hF rfl rfl) ?_
    clear hF; intro a hF
    refine seq_skip hF (wn_f hF rfl rfl rfl rfl) rfl rfl ?_
    clear hF; intro a hF
    refine seq_skip hF (wn_f hF rfl rfl rfl rfl) rfl rfl ?_
    clear hF; intro a hF
    refine seq_skip hF (wn_f hF rfl rfl rfl rfl) rfl rfl ?_
    clear hF; intro a hF
    refine seq_skip hF (wn_f hF rfl rfl rfl rfl) rfl rfl ?_
    clear hF; intro a hF
    refine seq_yl hF (wn_none rfl) rfl rfl (yl_pick (u := _) (v := undef) hF rfl rfl (fun _ => rfl) (fun h => by cases h)) ?_
    clear hF; intro a hF
    refine wpList_nil ?_
    refine then_n ?_
    refine c_cond_t hF rfl ?_
    refine c_seq ?_
    refine c_region ?_
    refine seq_yl hF (wn_none rfl) rfl rfl (yl_assign hF rfl rfl) ?_
    clear hF; intro a hF
    refine wpList_nil ?_
    refine then_n ?_
    refine wp_ret ?_
    refine then_r ?_
    refine ret_t hF rfl rfl ?_
    replace hS := hS.addNil 9 1
    exact ⟨_, rfl, _, [], rfl, vers_no (fun h9 => by have h8 := h9.2; have h7 := okD_I h9.1; simp only [okW, okS, okI] at h8; first | exact absurd h9.1 (by assumption) | exact absurd h9.2 (by assumption) | omega), (hS.sub [0] (by decide) (by first | rfl | simp) (by simp))⟩
  · first | (replace hc77 := of_decide_eq_false hc77) | (replace hc77 := of_decide_eq_true (bnot_f hc77)) | (subst hc77) | (replace hc77 := bnot_f hc77; subst hc77) | (replace hc77 := bnot_f hc77) | skip
    try (have hc77x := hc77; simp only [okS, okI, okW, okP] at hc77x)
    refine seq_yl hF (wn_t hF rfl rfl rfl rfl) rfl rfl (yl_move hF rfl rfl) ?_
    clear hF; intro a hF
    refine seq_yl hF (wn_t hF rfl rfl rfl rfl) rfl rfl (yl_bin hF rfl rfl rfl rfl (fun _ => run_lss)) ?_
    clear hF; intro a hF
    refine seq_yl hF (wn_none rfl) rfl rfl (yl_pick (u := _) (v := undef) hF rfl rfl (fun h => by cases h) (fun _ => rfl)) ?_
    clear hF; intro a hF
    refine seq_yl hF (wn_none rfl) rfl rfl (yl_move hF rfl rfl) ?_
    clear hF; intro a hF
    refine fr_split hF (fun hc79 hF => ?_) (fun hc79 hF => ?_)
    · first | (replace hc79 := of_decide_eq_true hc79) | (replace hc79 := of_decide_eq_false (bnot_t hc79)) | (subst hc79) | (replace hc79 := bnot_t hc79; subst hc79) | (replace hc79 := bnot_t hc79) | skip
      try (have hc79x := hc79; simp only [okS, okI, okW, okP] at hc79x)
      refine seq_skip hF (wn_f hF rfl rfl rfl rfl) rfl rfl ?_
      clear hF; intro a hF
      refine seq_skip hF (wn_f hF rfl rfl rfl rfl) rfl rfl ?_
      clear hF; intro a hF
      refine seq_skip hF (wn_f hF rfl rfl rfl rfl) rfl rfl ?_
      clear hF; intro a hF
      refine seq_skip hF (wn_f hF rfl rfl rfl rfl) rfl rfl ?_
      clear hF; intro a hF
      refine seq_yl hF (wn_none rfl) rfl rfl (yl_pick (u := _) (v := undef) hF rfl rfl (fun _ => rfl) (fun h => by cases h)) ?_
      clear hF; intro a hF
      refine wpList_nil ?_
      refine then_n ?_
      refine c_cond_t hF rfl ?_
      refine c_seq ?_
      refine c_region ?_
      refine seq_yl hF (wn_none rfl) rfl rfl (yl_assign hF rfl rfl) ?_
      clear hF; intro a hF
      refine wpList_nil ?_
      refine then_n ?_
      refine wp_ret ?_
      refine then_r ?_
      refine ret_t hF rfl rfl ?_
      replace hS := hS.addNil 9 1
      exact ⟨_, rfl, _, [], rfl, vers_no (fun h9 => by have h8 := h9.2; have h7 := okD_I h9.1; simp only [okW, okS, okI] at h8; first | exact absurd h9.1 (by assumption) | exact absurd h9.2 (by assumption) | omega), (hS.sub [0] (by decide) (by first | rfl | simp) (by simp))⟩
    · first | (replace hc79 := of_decide_eq_false hc79) | (replace hc79 := of_decide_eq_true (bnot_f hc79)) | (subst hc79) | (replace hc79 := bnot_f hc79; subst hc79) | (replace hc79 := bnot_f hc79) | skip
      try (have hc79x := hc79; simp only [okS, okI, okW, okP] at hc79x)
      refine seq_yl hF (wn_t hF rfl rfl rfl rfl) rfl rfl (yl_move hF rfl rfl) ?_
      clear hF; intro a hF
      refine seq_yl hF (wn_t hF rfl rfl rfl rfl) rfl rfl (yl_loadK (rs := [_, _, _]) (fun _ h => h ▸ hS) hF rfl rfl 0 rfl ag24 sz24 rfl rfl) ?_
      clear hF; intro a hF
      refine seq_wp (wn_t hF rfl rfl rfl rfl) (wp_call (vs := [_]) hF rfl rfl rfl rfl cf27 (secs_any st _ _ _ (by omega)) ?_)
      clear hF; rintro _ w ⟨rfl, hS1⟩ a hF
      replace hS := hS.callB hS1 rfl; clear hS1
      refine seq_yl hF (wn_t hF rfl rfl rfl rfl) rfl rfl (yl_bin hF rfl rfl rfl rfl (fun _ => run_geq)) ?_
      clear hF; intro a hF
      refine seq_yl hF (wn_none rfl) rfl rfl (yl_pick (u := _) (v := undef) hF rfl rfl (fun h => by cases h) (fun _ => rfl)) ?_
      clear hF; intro a hF
      refine wpList_nil ?_
      refine then_n ?_
      refine c_cond hF rfl (fun hc81 => ?_) (fun hc81 => ?_)
      · first | (replace hc81 := of_decide_eq_true hc81) | (replace hc81 := of_decide_eq_false (bnot_t hc81)) | (subst hc81) | (replace hc81 := bnot_t hc81; subst hc81) | (replace hc81 := bnot_t hc81) | skip
        try (have hc81x := hc81; simp only [okS, okI, okW, okP] at hc81x)
        refine c_seq ?_
        refine c_region ?_
        refine seq_yl hF (wn_none rfl) rfl rfl (yl_assign hF rfl rfl) ?_
        clear hF; intro a hF
        refine wpList_nil ?_
        refine then_n ?_
        refine wp_ret ?_
        refine then_r ?_
        refine ret_t hF rfl rfl ?_
        replace hS := hS.addNil 9 1
        exact ⟨_, rfl, _, [], rfl, vers_no (fun h9 => by have h8 := h9.2; have h7 := okD_I h9.1; simp only [okW, okS, okI] at h8; first | exact absurd h9.1 (by assumption) | exact absurd h9.2 (by assumption) | omega), (hS.sub [0] (by decide) (by first | rfl | simp) (by simp))⟩
      · first | (replace hc81 := of_decide_eq_false hc81) | (replace hc81 := of_decide_eq_true (bnot_f hc81)) | (subst hc81) | (replace hc81 := bnot_f hc81; subst hc81) | (replace hc81 := bnot_f hc81) | skip
        try (have hc81x := hc81; simp only [okS, okI, okW, okP] at hc81x)
        refine wp_skip ?_
        refine then_n ?_
        refine c_seq ?_
        refine c_region ?_
        refine seq_yl hF (wn_none rfl) rfl rfl (yl_fieldAddr hF rfl rfl (fun w => by kernel_rfl : ∀ w, (Instr.fieldAt 24 (.pointer (some ⟨g76, 0, none⟩)) 0).run Try.prog w = .ok (.pointer (some ⟨g76, 0, none⟩)) w)) ?_
        clear hF; intro a hF
        refine seq_yl hF (wn_none rfl) rfl rfl (yl_load (fun _ h => h ▸ hS) hF rfl rfl 0 rfl ag9 rfl) ?_
        clear hF; intro a hF
        refine seq_yl hF (wn_none rfl) rfl rfl (yl_move hF rfl rfl) ?_
        clear hF; intro a hF
        refine seq_wp (wn_none rfl) (wp_call (vs := [_, _, _]) hF rfl rfl rfl rfl cf26 (imRead2_any st (s) (1 : Int) _ (by omega)) ?_)
        clear hF; rintro _ w ⟨xs83, e84, rfl, hsp85, hS1⟩ a hF
        replace hS := hS.callB hS1 rfl; clear hS1
        have hsp85z := fun h9 : okS ((st).size : Int) (s) (1 : Int) => subs_size (s := st) (i := (s) * 8) (j := ((s) + (1 : Int)) * 8) (by unfold okS at h9; omega) (by unfold okS at h9; omega) (by unfold okS okI at h9; omega)
        obtain ⟨hk86, rfl, rfl⟩ := hsp85.resolve_right (fun h9 => h9.1 (by have h8 := okD_I (‹okD st L rm› : okD st L rm); unfold okS okI; omega))
        try (have hk86x := hk86; simp only [okS, okI, okW, okP] at hk86x)
        refine seq_yl hF (wn_none rfl) rfl rfl (yl_move hF rfl rfl) ?_
        clear hF; intro a hF
        refine seq_yl hF (wn_none rfl) rfl rfl (yl_extract hF rfl rfl rfl) ?_
        clear hF; intro a hF
        refine seq_yl hF (wn_none rfl) rfl rfl (yl_extract hF rfl rfl rfl) ?_
        clear hF; intro a hF
        refine seq_yl hF (wn_none rfl) rfl rfl (yl_assign hF rfl rfl) ?_
        clear hF; intro a hF
        refine seq_yl hF (wn_none rfl) rfl rfl (yl_assign hF rfl rfl) ?_
        clear hF; intro a hF
        refine wpList_nil ?_
        refine then_n ?_
        refine c_seq ?_
        refine c_region ?_
        refine seq_yl hF (wn_none rfl) rfl rfl (yl_move hF rfl rfl) ?_
        clear hF; intro a hF
        refine seq_wp (wn_none rfl) (wp_bslice (parts := [(0, .tmp 29)]) (vs := [(0, _)]) (enc := encS) (e := 9) (size := 1) (cs := #[.string (subs st ((s) * 8) (((s) + (1 : Int)) * 8))]) hF hS rfl rfl rfl rfl ([(subs st ((s) * 8) (((s) + (1 : Int)) * 8))] : List ByteArray) (fun w => by kernel_rfl) rfl rfl rfl (by decide) ?_)
        clear hF hS; intro a w v87 hF hS
        obtain ⟨Av87, cv87, rfl⟩ := hS.form 0 rfl
        refine seq_yl hF (wn_none rfl) rfl rfl (yl_assign hF rfl rfl) ?_
        clear hF; intro a hF
        refine wpList_nil ?_
        refine then_n ?_
        refine c_seq ?_
        refine c_seq ?_
        refine c_region ?_
        refine seq_yl hF (wn_none rfl) rfl rfl (yl_assign hF rfl rfl) ?_
        clear hF; intro a hF
        refine wpList_nil ?_
        refine then_n ?_
        refine wp_block ?_
        refine c_loop (fun m a w => ∃ (k : Nat) (AvR : Option Addr) (mv cvR : Nat), m = L.length - k ∧ (k ≤ L.length) ∧ Fr 56 a [(1, .int .i64 (s)), (2, .pointer (some ⟨g76, 0, none⟩)), (7, .slice AvR mv cvR), (8, .int .i64 ((k : Nat) : Int))] ∧ Sat w0 w (.box g76 24 #[.string st, .slice Alv (L).length clv, .int .i64 (rm)] :: .ro 2 (.slice Alv (L).length clv) (L).length (cells enc59 (L)) :: .row 9 1 (.slice AvR mv cvR) ((versC st (L.take k) s)).length (cells encS ((versC st (L.take k) s))) :: [])) (L.length - 0) ?_ ?_
        · exact ⟨0, Av87, _, cv87, rfl, (Nat.zero_le _), hF.to [1, 2, 7, 8] rfl, (hS.sub [1, 2, 0] (by decide) (by first | rfl | simp) (by simp))⟩
        · clear hF hS; try clear hSS
          clear a w; rintro m a w ⟨k, AvR, mv, cvR, rfl, hinv, hF, hS⟩
          have hk : k ≤ L.length := hinv
          have hvl := versC_len st (L.take k) s
          have htl : (L.take k).length ≤ L.length := by simp; omega
          refine c_seq ?_
          refine c_seq ?_
          refine c_region ?_
          refine seq_yl hF (wn_none rfl) rfl rfl (yl_move hF rfl rfl) ?_
          clear hF; intro a hF
          refine seq_yl hF (wn_none rfl) rfl rfl (yl_fieldAddr hF rfl rfl (fun w => by kernel_rfl : ∀ w, (Instr.fieldAt 24 (.pointer (some ⟨g76, 0, none⟩)) 1).run Try.prog w = .ok (.pointer (some ⟨g76, 1, none⟩)) w)) ?_
          clear hF; intro a hF
          refine seq_yl hF (wn_none rfl) rfl rfl (yl_load (fun _ h => h ▸ hS) hF rfl rfl 0 rfl ag22 rfl) ?_
          clear hF; intro a hF
          refine seq_yl hF (wn_none rfl) rfl rfl (yl_len hF rfl rfl (fun _ => run_lenRd sl22 (hS.rdRo 1 rfl))) ?_
          clear hF; intro a hF
          refine seq_yl hF (wn_none rfl) rfl rfl (yl_bin hF rfl rfl rfl rfl (fun _ => run_lss)) ?_
          clear hF; intro a hF
          refine wpList_nil ?_
          refine then_n ?_
          refine c_cond hF rfl (fun hc88 => ?_) (fun hc88 => ?_)
          · first | (replace hc88 := of_decide_eq_true hc88) | (replace hc88 := of_decide_eq_false (bnot_t hc88)) | (subst hc88) | (replace hc88 := bnot_t hc88; subst hc88) | (replace hc88 := bnot_t hc88) | skip
            try (have hc88x := hc88; simp only [okS, okI, okW, okP] at hc88x)
            refine wp_skip ?_
            refine then_n ?_
            refine c_seq ?_
            refine wp_block ?_
            refine c_seq ?_
            refine c_region ?_
            refine seq_yl hF (wn_none rfl) rfl rfl (yl_fieldAddr hF rfl rfl (fun w => by kernel_rfl : ∀ w, (Instr.fieldAt 24 (.pointer (some ⟨g76, 0, none⟩)) 1).run Try.prog w = .ok (.pointer (some ⟨g76, 1, none⟩)) w)) ?_
            clear hF; intro a hF
            refine seq_yl hF (wn_none rfl) rfl rfl (yl_load (fun _ h => h ▸ hS) hF rfl rfl 0 rfl ag22 rfl) ?_
            clear hF; intro a hF
            refine seq_yl hF (wn_none rfl) rfl rfl (yl_move hF rfl rfl) ?_
            clear hF; intro a hF
            have hlt_hx89 : k < (L).length := by first | omega | (simp; done) | (simp; omega)
            obtain ⟨ad90, rfl⟩ := rd_some (hS.rdRo 1 rfl) hlt_hx89
            obtain ⟨x89, hx89⟩ := get_some hlt_hx89
            refine seq_yl hF (wn_none rfl) rfl rfl (yl_indexAddr hF rfl rfl rfl (fun _ => run_idx' sl22 sz59 (hS.rdRo 1 rfl) hlt_hx89)) ?_
            clear hF; intro a hF
            refine seq_yl hF (wn_none rfl) rfl rfl (yl_fieldAddr hF rfl rfl (fun w => run_fa0 fo59_0)) ?_
            clear hF; intro a hF
            refine seq_yl hF (wn_none rfl) rfl rfl (yl_loadAt hF rfl rfl ag3 (fun _ h => rd_cell0 (enc := enc59) (by subst h; exact hS.rdRo 1 rfl) enc59_len hx89 rfl rfl)) ?_
            clear hF; intro a hF
            refine seq_yl hF (wn_none rfl) rfl rfl (yl_move hF rfl rfl) ?_
            clear hF; intro a hF
            refine seq_yl hF (wn_none rfl) rfl rfl (yl_bin hF rfl rfl rfl rfl (fun _ => run_eql)) ?_
            clear hF; intro a hF
            refine wpList_nil ?_
            refine then_n ?_
            refine c_cond hF rfl (fun hc91 => ?_) (fun hc91 => ?_)
            · first | (replace hc91 := of_decide_eq_true hc91) | (replace hc91 := of_decide_eq_false (bnot_t hc91)) | (subst hc91) | (replace hc91 := bnot_t hc91; subst hc91) | (replace hc91 := bnot_t hc91) | skip
              try (have hc91x := hc91; simp only [okS, okI, okW, okP] at hc91x)
              refine c_region ?_
              refine seq_yl hF (wn_none rfl) rfl rfl (yl_move hF rfl rfl) ?_
              clear hF; intro a hF
              refine seq_yl hF (wn_none rfl) rfl rfl (yl_fieldAddr hF rfl rfl (fun w => by kernel_rfl : ∀ w, (Instr.fieldAt 24 (.pointer (some ⟨g76, 0, none⟩)) 1).run Try.prog w = .ok (.pointer (some ⟨g76, 1, none⟩)) w)) ?_
              clear hF; intro a hF
              refine seq_yl hF (wn_none rfl) rfl rfl (yl_load (fun _ h => h ▸ hS) hF rfl rfl 0 rfl ag22 rfl) ?_
              clear hF; intro a hF
              refine seq_yl hF (wn_none rfl) rfl rfl (yl_move hF rfl rfl) ?_
              clear hF; intro a hF
              refine seq_yl hF (wn_none rfl) rfl rfl (yl_indexAddr hF rfl rfl rfl (fun _ => run_idx' sl22 sz59 (hS.rdRo 1 rfl) hlt_hx89)) ?_
              clear hF; intro a hF
              refine seq_yl hF (wn_none rfl) rfl rfl (yl_fieldAddr hF rfl rfl (fun w => run_fa fo59_1)) ?_
              clear hF; intro a hF
              refine seq_yl hF (wn_none rfl) rfl rfl (yl_loadAt hF rfl rfl ag9 (fun _ h => rd_cell (j := 1) (enc := enc59) (by subst h; exact hS.rdRo 1 rfl) enc59_len hx89 rfl rfl)) ?_
              clear hF; intro a hF
              refine seq_wp (wn_none rfl) (wp_bslice (parts := [(0, .tmp 52)]) (vs := [(0, _)]) (enc := encS) (e := 9) (size := 1) (cs := #[.string x89.f1]) hF hS rfl rfl rfl rfl ([x89.f1] : List ByteArray) (fun w => by kernel_rfl) rfl rfl rfl (by decide) ?_)
              clear hF hS; intro a w v92 hF hS
              obtain ⟨Av92, cv92, rfl⟩ := hS.form 0 rfl
              refine seq_wp (wn_none rfl) (wp_app (enc := encS) hF hS rfl rfl rfl rfl rfl 3 rfl sl52 inf9 rfl (by decide) (hS.rdRow 0 rfl) encS_one (by decide) (by first | omega | (simp only [List.length_append, List.length_cons, List.length_nil]; omega) | (simp; omega)) ?_)
              clear hF hS; intro a w v93 hF hS
              obtain ⟨Av93, cv93, rfl⟩ := hS.form 3 rfl
              refine seq_yl hF (wn_none rfl) rfl rfl (yl_assign hF rfl rfl) ?_
              clear hF; intro a hF
              refine wpList_nil ?_
              refine inb_n ?_
              refine then_n ?_
              refine c_region ?_
              refine seq_yl hF (wn_none rfl) rfl rfl (yl_move hF rfl rfl) ?_
              clear hF; intro a hF
              refine seq_yl hF (wn_none rfl) rfl rfl (yl_bin hF rfl rfl rfl rfl (fun _ => run_inc (by omega))) ?_
              clear hF; intro a hF
              refine seq_yl hF (wn_none rfl) rfl rfl (yl_assign hF rfl rfl) ?_
              clear hF; intro a hF
              refine wpList_nil ?_
              refine then_n ?_
              rw [versC_in hx89 (by omega)] at hS hF
              exact ⟨_, (by omega), k + 1, Av93, _, cv93, rfl, (show _ ≤ _ by omega), hF.to [1, 2, 7, 8] rfl, (hS.sub [1, 2, 3] (by decide) (by first | rfl | simp) (by simp))⟩
            · first | (replace hc91 := of_decide_eq_false hc91) | (replace hc91 := of_decide_eq_true (bnot_f hc91)) | (subst hc91) | (replace hc91 := bnot_f hc91; subst hc91) | (replace hc91 := bnot_f hc91) | skip
              try (have hc91x := hc91; simp only [okS, okI, okW, okP] at hc91x)
              refine wp_skip ?_
              refine inb_n ?_
              refine then_n ?_
              refine c_region ?_
              refine seq_yl hF (wn_none rfl) rfl rfl (yl_move hF rfl rfl) ?_
              clear hF; intro a hF
              refine seq_yl hF (wn_none rfl) rfl rfl (yl_bin hF rfl rfl rfl rfl (fun _ => run_inc (by omega))) ?_
              clear hF; intro a hF
              refine seq_yl hF (wn_none rfl) rfl rfl (yl_assign hF rfl rfl) ?_
              clear hF; intro a hF
              refine wpList_nil ?_
              refine then_n ?_
              rw [versC_out hx89 (by omega)] at hS
              exact ⟨_, (by omega), k + 1, AvR, _, cvR, rfl, (show _ ≤ _ by omega), hF.to [1, 2, 7, 8] rfl, (hS.sub [0, 1, 2] (by decide) (by first | rfl | simp) (by simp))⟩
          · first | (replace hc88 := of_decide_eq_false hc88) | (replace hc88 := of_decide_eq_true (bnot_f hc88)) | (subst hc88) | (replace hc88 := bnot_f hc88; subst hc88) | (replace hc88 := bnot_f hc88) | skip
            try (have hc88x := hc88; simp only [okS, okI, okW, okP] at hc88x)
            refine wp_exit ?_
            refine then_x ?_
            refine then_x ?_
            refine inb_x ?_
            refine then_n ?_
            refine c_seq ?_
            refine c_region ?_
            refine seq_yl hF (wn_none rfl) rfl rfl (yl_move hF rfl rfl) ?_
            clear hF; intro a hF
            refine seq_yl hF (wn_none rfl) rfl rfl (yl_assign hF rfl rfl) ?_
            clear hF; intro a hF
            refine wpList_nil ?_
            refine then_n ?_
            refine wp_ret ?_
            refine ret_t hF rfl rfl ?_
            exact ⟨_, rfl, _, _, rfl, vers_yes (k := k) (‹okD st L rm› : okD st L rm) (by first | assumption | (have h8 := okD_I (‹okD st L rm› : okD st L rm); unfold okS okI; omega)) (by omega), (hS.sub [2] (by decide) (by first | rfl | simp) (by simp))⟩

end Go.Proofs.Ytlhcpeolkkadbaa

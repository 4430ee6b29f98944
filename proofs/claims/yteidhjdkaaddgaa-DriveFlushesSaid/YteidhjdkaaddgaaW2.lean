/- walks, printed by wip/gen -/
import Derived.Test.YteidhjdkaaddgaaW1
namespace Go.Proofs.Yteidhjdkaaddgaa
open Go.RowKit
set_option linter.unusedVariables false
set_option linter.unusedSimpArgs false

set_option maxRecDepth 100000 in
theorem vers_any (st : ByteArray) (lv : Value) (L : List E39) (rm : Int) (s : Int) (w0 : World) (hv : Rd w0 2 lv (L).length (cells enc39 (L))) (hz : (st.size : Int) ≤ 9223372036854775807) (hL : L.length ≤ 1000000) :
    Fn Try.prog 16 #[.agg #[.string st, lv, .int .i64 rm], .int .i64 s] w0 (fun v w' => ∃ (v1 : Value) (M : List ByteArray), v = v1 ∧ M = vers st L rm s ∧ Sat w0 w' [.row 9 1 v1 (M).length (cells encS (M))]) := by
  obtain ⟨Alv, clv, rfl⟩ := Rd.form hv
  refine c_enter (N := 44) (l := [_, _]) Try.func16 rfl rfl (fun a w hF hS => ?_)
  replace hS := hS.addRo hv
  refine c_seq ?_
  refine c_region ?_
  refine seq_wp (wn_none rfl) (wp_box (cs := #[_, _, _]) hF hS rfl rfl rfl rfl rfl ?_)
  clear hF hS; intro a w g70 hF hS
  refine seq_yl hF (wn_none rfl) rfl rfl (yl_assign hF rfl rfl) ?_
  clear hF; intro a hF
  refine wpList_nil ?_
  refine then_n ?_
  refine c_seq ?_
  refine c_region ?_
  refine seq_yl hF (wn_none rfl) rfl rfl (yl_fieldAddr hF rfl rfl (fun w => by kernel_rfl : ∀ w, (Instr.fieldAt 25 (.pointer (some ⟨g70, 0, none⟩)) 0).run Try.prog w = .ok (.pointer (some ⟨g70, 0, none⟩)) w)) ?_
  clear hF; intro a hF
  refine seq_yl hF (wn_none rfl) rfl rfl (yl_load (fun _ h => h ▸ hS) hF rfl rfl 0 rfl ag9 rfl) ?_
  clear hF; intro a hF
  refine seq_yl hF (wn_none rfl) rfl rfl (yl_move hF rfl rfl) ?_
  clear hF; intro a hF
  refine seq_wp (wn_none rfl) (wp_call (vs := [_, _, _]) hF rfl rfl rfl rfl cf37 (imRead_any st (s) (1 : Int) _ (by omega)) ?_)
  clear hF; rintro _ w ⟨xs71, e72, rfl, hsp73, hS1⟩ a hF
  replace hS := hS.callB hS1 rfl; clear hS1
  have hsp73z := fun h9 : okS ((st).size : Int) (s) (1 : Int) => subs_size (s := st) (i := (s) * 8) (j := ((s) + (1 : Int)) * 8) (by unfold okS at h9; omega) (by unfold okS at h9; omega) (by unfold okS okI at h9; omega)
  rcases hsp73 with ⟨hk74, rfl, rfl⟩ | ⟨hk74, rfl, rfl⟩ <;> (try (have hk74x := hk74; simp only [okS, okI, okW, okP] at hk74x))
  · skip
    refine seq_yl hF (wn_none rfl) rfl rfl (yl_move hF rfl rfl) ?_
    clear hF; intro a hF
    refine seq_yl hF (wn_none rfl) rfl rfl (yl_extract hF rfl rfl rfl) ?_
    clear hF; intro a hF
    refine seq_yl hF (wn_none rfl) rfl rfl (yl_extract hF rfl rfl rfl) ?_
    clear hF; intro a hF
    refine seq_yl hF (wn_none rfl) rfl rfl (yl_assign hF rfl rfl) ?_
    clear hF; intro a hF
    refine seq_yl hF (wn_none rfl) rfl rfl (yl_assign hF rfl rfl) ?_
    clear hF; intro a hF
    refine wpList_nil ?_
    refine then_n ?_
    refine c_seq ?_
    refine c_seq ?_
    refine c_region ?_
    refine seq_yl hF (wn_none rfl) rfl rfl (yl_move hF rfl rfl) ?_
    clear hF; intro a hF
    refine seq_yl hF (wn_none rfl) rfl rfl (yl_un hF rfl rfl (fun _ => run_not)) ?_
    clear hF; intro a hF
    refine seq_yl hF (wn_none rfl) rfl rfl (yl_move hF rfl rfl) ?_
    clear hF; intro a hF
    refine seq_yl hF (wn_t hF rfl rfl rfl rfl) rfl rfl (yl_loadK (rs := [_, _, _]) (fun _ h => h ▸ hS) hF rfl rfl 0 rfl ag25 sz25 rfl rfl) ?_
    clear hF; intro a hF
    refine seq_wp (wn_t hF rfl rfl rfl rfl) (wp_call (vs := [_]) hF rfl rfl rfl rfl cf26 (dValid_any st _ L (rm) _ (hS.rdRo 1 rfl) (by first | omega | (simp; done)) (by first | omega | (simp; done))) ?_)
    clear hF; rintro _ w ⟨rfl, hS1⟩ a hF
    replace hS := hS.callB hS1 rfl; clear hS1
    refine seq_yl hF (wn_t hF rfl rfl rfl rfl) rfl rfl (yl_un hF rfl rfl (fun _ => run_not)) ?_
    clear hF; intro a hF
    refine seq_yl hF (wn_none rfl) rfl rfl (yl_pick (u := _) (v := undef) hF rfl rfl (fun h => by cases h) (fun _ => rfl)) ?_
    clear hF; intro a hF
    refine wpList_nil ?_
    refine then_n ?_
    refine c_cond hF rfl (fun hc75 => ?_) (fun hc75 => ?_)
    · first | (replace hc75 := of_decide_eq_true hc75) | (replace hc75 := of_decide_eq_false (bnot_t hc75)) | (subst hc75) | (replace hc75 := bnot_t hc75; subst hc75) | (replace hc75 := bnot_t hc75) | skip
      try (have hc75x := hc75; simp only [okS, okI, okW, okP] at hc75x)
      refine c_seq ?_
      refine c_region ?_
      refine seq_yl hF (wn_none rfl) rfl rfl (yl_assign hF rfl rfl) ?_
      clear hF; intro a hF
      refine wpList_nil ?_
      refine then_n ?_
      refine wp_ret ?_
      refine then_r ?_
      refine ret_t hF rfl rfl ?_
      replace hS := hS.addNil 9 1
      exact ⟨_, rfl, _, [], rfl, vers_no (fun h9 => by have h8 := h9.2; have h7 := okD_I h9.1; simp only [okW, okS, okI] at h8; first | exact absurd h9.1 (by assumption) | exact absurd h9.2 (by assumption) | omega), (hS.sub [0] (by decide) (by first | rfl | simp) (by simp))⟩
    · first | (replace hc75 := of_decide_eq_false hc75) | (replace hc75 := of_decide_eq_true (bnot_f hc75)) | (subst hc75) | (replace hc75 := bnot_f hc75; subst hc75) | (replace hc75 := bnot_f hc75) | skip
      try (have hc75x := hc75; simp only [okS, okI, okW, okP] at hc75x)
      refine wp_skip ?_
      refine then_n ?_
      refine c_seq ?_
      refine c_region ?_
      refine seq_yl hF (wn_none rfl) rfl rfl (yl_move hF rfl rfl) ?_
      clear hF; intro a hF
      refine seq_wp (wn_none rfl) (wp_bslice (parts := [(0, .tmp 24)]) (vs := [(0, _)]) (enc := encS) (e := 9) (size := 1) (cs := #[.string (subs st ((s) * 8) (((s) + (1 : Int)) * 8))]) hF hS rfl rfl rfl rfl ([(subs st ((s) * 8) (((s) + (1 : Int)) * 8))] : List ByteArray) (fun w => by kernel_rfl) rfl rfl rfl (by decide) ?_)
      clear hF hS; intro a w v77 hF hS
      obtain ⟨Av77, cv77, rfl⟩ := hS.form 0 rfl
      refine seq_yl hF (wn_none rfl) rfl rfl (yl_assign hF rfl rfl) ?_
      clear hF; intro a hF
      refine wpList_nil ?_
      refine then_n ?_
      refine c_seq ?_
      refine c_seq ?_
      refine c_region ?_
      refine seq_yl hF (wn_none rfl) rfl rfl (yl_fieldAddr hF rfl rfl (fun w => by kernel_rfl : ∀ w, (Instr.fieldAt 25 (.pointer (some ⟨g70, 0, none⟩)) 1).run Try.prog w = .ok (.pointer (some ⟨g70, 1, none⟩)) w)) ?_
      clear hF; intro a hF
      refine seq_yl hF (wn_none rfl) rfl rfl (yl_load (fun _ h => h ▸ hS) hF rfl rfl 1 rfl ag23 rfl) ?_
      clear hF; intro a hF
      refine seq_yl hF (wn_none rfl) rfl rfl (yl_len hF rfl rfl (fun _ => run_lenRd sl23 (hS.rdRo 2 rfl))) ?_
      clear hF; intro a hF
      refine seq_yl hF (wn_none rfl) rfl rfl (yl_move hF rfl rfl) ?_
      clear hF; intro a hF
      refine wpList_nil ?_
      refine then_n ?_
      refine wp_block ?_
      refine c_loop (fun m a w => ∃ (k : Nat) (AvR : Option Addr) (mv cvR : Nat), m = L.length - k ∧ (k ≤ L.length) ∧ Fr 44 a [(1, .int .i64 (s)), (7, .slice AvR mv cvR), (27, .slice Alv (L).length clv), (28, .int .i64 (((L).length : Nat) : Int)), (29, .int .i64 ((k : Nat) : Int))] ∧ Sat w0 w (.ro 2 (.slice Alv (L).length clv) (L).length (cells enc39 (L)) :: .row 9 1 (.slice AvR mv cvR) ((versC st (L.take k) s)).length (cells encS ((versC st (L.take k) s))) :: [])) (L.length - 0) ?_ ?_
      · exact ⟨0, Av77, _, cv77, rfl, (Nat.zero_le _), hF.to [1, 7, 27, 28, 29] rfl, (hS.sub [2, 0] (by decide) (by first | rfl | simp) (by simp))⟩
      · clear hF hS; try clear hSS
        clear a w; rintro m a w ⟨k, AvR, mv, cvR, rfl, hinv, hF, hS⟩
        have hk : k ≤ L.length := hinv
        have hvl := versC_len st (L.take k) s
        have htl : (L.take k).length ≤ L.length := by simp; omega
        refine c_seq ?_
        refine c_region ?_
        refine seq_yl hF (wn_none rfl) rfl rfl (yl_bin hF rfl rfl rfl rfl (fun _ => run_lss)) ?_
        clear hF; intro a hF
        refine wpList_nil ?_
        refine then_n ?_
        refine c_seq ?_
        refine c_cond hF rfl (fun hc78 => ?_) (fun hc78 => ?_)
        · first | (replace hc78 := of_decide_eq_true hc78) | (replace hc78 := of_decide_eq_false (bnot_t hc78)) | (subst hc78) | (replace hc78 := bnot_t hc78; subst hc78) | (replace hc78 := bnot_t hc78) | skip
          try (have hc78x := hc78; simp only [okS, okI, okW, okP] at hc78x)
          refine wp_skip ?_
          refine then_n ?_
          refine c_seq ?_
          refine wp_block ?_
          refine c_seq ?_
          refine c_region ?_
          have hlt_hx79 : k < (L).length := by first | omega | (simp; done) | (simp; omega)
          obtain ⟨ad80, rfl⟩ := rd_some (hS.rdRo 0 rfl) hlt_hx79
          obtain ⟨x79, hx79⟩ := get_some hlt_hx79
          refine seq_yl hF (wn_none rfl) rfl rfl (yl_indexAddr hF rfl rfl rfl (fun _ => run_idx' sl23 sz39 (hS.rdRo 0 rfl) hlt_hx79)) ?_
          clear hF; intro a hF
          refine seq_yl hF (wn_none rfl) rfl rfl (yl_loadEl (rs := [.int .i64 (x79.f0), .string x79.f1]) hF rfl rfl ag39 sz39 rfl (fun _ h => rd_cells (enc := enc39) (by subst h; exact hS.rdRo 0 rfl) enc39_len hx79)) ?_
          clear hF; intro a hF
          refine seq_wp (wn_none rfl) (wp_alloc (cs := #[_, _]) hF hS rfl rfl rfl zr39 rfl ?_)
          clear hF hS; intro a w g81 hF hS
          refine seq_wp (wn_none rfl) (wp_store (cs' := #[_, _]) hF hS rfl rfl rfl rfl 0 rfl sz39 (by simp [Value.cells, Value.oneCell']) (by simp [Value.cells]) rfl ?_)
          clear hF hS; intro a w hF hS
          refine wpList_nil ?_
          refine then_n ?_
          refine c_seq ?_
          refine c_region ?_
          refine seq_yl hF (wn_none rfl) rfl rfl (yl_fieldAddr hF rfl rfl (fun w => by kernel_rfl : ∀ w, (Instr.fieldAt 39 (.pointer (some ⟨g81, 0, none⟩)) 0).run Try.prog w = .ok (.pointer (some ⟨g81, 0, none⟩)) w)) ?_
          clear hF; intro a hF
          refine seq_yl hF (wn_none rfl) rfl rfl (yl_load (fun _ h => h ▸ hS) hF rfl rfl 0 rfl ag3 rfl) ?_
          clear hF; intro a hF
          refine seq_yl hF (wn_none rfl) rfl rfl (yl_move hF rfl rfl) ?_
          clear hF; intro a hF
          refine seq_yl hF (wn_none rfl) rfl rfl (yl_bin hF rfl rfl rfl rfl (fun _ => run_eql)) ?_
          clear hF; intro a hF
          refine wpList_nil ?_
          refine then_n ?_
          refine c_cond hF rfl (fun hc82 => ?_) (fun hc82 => ?_)
          · first | (replace hc82 := of_decide_eq_true hc82) | (replace hc82 := of_decide_eq_false (bnot_t hc82)) | (subst hc82) | (replace hc82 := bnot_t hc82; subst hc82) | (replace hc82 := bnot_t hc82) | skip
            try (have hc82x := hc82; simp only [okS, okI, okW, okP] at hc82x)
            refine c_region ?_
            refine seq_yl hF (wn_none rfl) rfl rfl (yl_move hF rfl rfl) ?_
            clear hF; intro a hF
            refine seq_yl hF (wn_none rfl) rfl rfl (yl_fieldAddr hF rfl rfl (fun w => by kernel_rfl : ∀ w, (Instr.fieldAt 39 (.pointer (some ⟨g81, 0, none⟩)) 1).run Try.prog w = .ok (.pointer (some ⟨g81, 1, none⟩)) w)) ?_
            clear hF; intro a hF
            refine seq_yl hF (wn_none rfl) rfl rfl (yl_load (fun _ h => h ▸ hS) hF rfl rfl 0 rfl ag9 rfl) ?_
            clear hF; intro a hF
            refine seq_wp (wn_none rfl) (wp_bslice (parts := [(0, .tmp 39)]) (vs := [(0, _)]) (enc := encS) (e := 9) (size := 1) (cs := #[.string x79.f1]) hF hS rfl rfl rfl rfl ([x79.f1] : List ByteArray) (fun w => by kernel_rfl) rfl rfl rfl (by decide) ?_)
            clear hF hS; intro a w v83 hF hS
            obtain ⟨Av83, cv83, rfl⟩ := hS.form 0 rfl
            refine seq_wp (wn_none rfl) (wp_app (enc := encS) hF hS rfl rfl rfl rfl rfl 3 rfl sl32 inf9 rfl (by decide) (hS.rdRow 0 rfl) encS_one (by decide) (by first | omega | (simp only [List.length_append, List.length_cons, List.length_nil]; omega) | (simp; omega)) ?_)
            clear hF hS; intro a w v84 hF hS
            obtain ⟨Av84, cv84, rfl⟩ := hS.form 3 rfl
            refine seq_yl hF (wn_none rfl) rfl rfl (yl_assign hF rfl rfl) ?_
            clear hF; intro a hF
            refine wpList_nil ?_
            refine inb_n ?_
            refine then_n ?_
            refine c_region ?_
            refine seq_yl hF (wn_none rfl) rfl rfl (yl_bin hF rfl rfl rfl rfl (fun _ => run_inc (by omega))) ?_
            clear hF; intro a hF
            refine seq_yl hF (wn_none rfl) rfl rfl (yl_move hF rfl rfl) ?_
            clear hF; intro a hF
            refine wpList_nil ?_
            refine then_n ?_
            rw [versC_in hx79 (by omega)] at hS hF
            exact ⟨_, (by omega), k + 1, Av84, _, cv84, rfl, (show _ ≤ _ by omega), hF.to [1, 7, 27, 28, 29] rfl, (hS.sub [2, 3] (by decide) (by first | rfl | simp) (by simp))⟩
          · first | (replace hc82 := of_decide_eq_false hc82) | (replace hc82 := of_decide_eq_true (bnot_f hc82)) | (subst hc82) | (replace hc82 := bnot_f hc82; subst hc82) | (replace hc82 := bnot_f hc82) | skip
            try (have hc82x := hc82; simp only [okS, okI, okW, okP] at hc82x)
            refine wp_skip ?_
            refine inb_n ?_
            refine then_n ?_
            refine c_region ?_
            refine seq_yl hF (wn_none rfl) rfl rfl (yl_bin hF rfl rfl rfl rfl (fun _ => run_inc (by omega))) ?_
            clear hF; intro a hF
            refine seq_yl hF (wn_none rfl) rfl rfl (yl_move hF rfl rfl) ?_
            clear hF; intro a hF
            refine wpList_nil ?_
            refine then_n ?_
            rw [versC_out hx79 (by omega)] at hS
            exact ⟨_, (by omega), k + 1, AvR, _, cvR, rfl, (show _ ≤ _ by omega), hF.to [1, 7, 27, 28, 29] rfl, (hS.sub [1, 2] (by decide) (by first | rfl | simp) (by simp))⟩
        · first | (replace hc78 := of_decide_eq_false hc78) | (replace hc78 := of_decide_eq_true (bnot_f hc78)) | (subst hc78) | (replace hc78 := bnot_f hc78; subst hc78) | (replace hc78 := bnot_f hc78) | skip
          try (have hc78x := hc78; simp only [okS, okI, okW, okP] at hc78x)
          refine wp_exit ?_
          refine then_x ?_
          refine then_x ?_
          refine inb_x ?_
          refine then_n ?_
          refine c_seq ?_
          refine c_region ?_
          refine seq_yl hF (wn_none rfl) rfl rfl (yl_move hF rfl rfl) ?_
          clear hF; intro a hF
          refine seq_yl hF (wn_none rfl) rfl rfl (yl_assign hF rfl rfl) ?_
          clear hF; intro a hF
          refine wpList_nil ?_
          refine then_n ?_
          refine wp_ret ?_
          refine ret_t hF rfl rfl ?_
          exact ⟨_, rfl, _, _, rfl, vers_yes (k := k) (‹okD st L rm› : okD st L rm) (by first | assumption | (have h8 := okD_I (‹okD st L rm› : okD st L rm); unfold okS okI; omega)) (by omega), (hS.sub [1] (by decide) (by first | rfl | simp) (by simp))⟩
  · skip
    refine seq_yl hF (wn_none rfl) rfl rfl (yl_move hF rfl rfl) ?_
    clear hF; intro a hF
    refine seq_yl hF (wn_none rfl) rfl rfl (yl_extract hF rfl rfl rfl) ?_
    clear hF; intro a hF
    refine seq_yl hF (wn_none rfl) rfl rfl (yl_extract hF rfl rfl rfl) ?_
    clear hF; intro a hF
    refine seq_yl hF (wn_none rfl) rfl rfl (yl_assign hF rfl rfl) ?_
    clear hF; intro a hF
    refine seq_yl hF (wn_none rfl) rfl rfl (yl_assign hF rfl rfl) ?_
    clear hF; intro a hF
    refine wpList_nil ?_
    refine then_n ?_
    refine c_seq ?_
    refine c_seq ?_
    refine c_region ?_
    refine seq_yl hF (wn_none rfl) rfl rfl (yl_move hF rfl rfl) ?_
    clear hF; intro a hF
    refine seq_yl hF (wn_none rfl) rfl rfl (yl_un hF rfl rfl (fun _ => run_not)) ?_
    clear hF; intro a hF
    refine seq_yl hF (wn_none rfl) rfl rfl (yl_move hF rfl rfl) ?_
    clear hF; intro a hF
    refine seq_skip hF (wn_f hF rfl rfl rfl rfl) rfl rfl ?_
    clear hF; intro a hF
    refine seq_skip hF (wn_f hF rfl rfl rfl rfl) rfl rfl ?_
    clear hF; intro a hF
    refine seq_skip hF (wn_f hF rfl rfl rfl rfl) rfl rfl ?_
    clear hF; intro a hF
    refine seq_yl hF (wn_none rfl) rfl rfl (yl_pick (u := _) (v := undef) hF rfl rfl (fun _ => rfl) (fun h => by cases h)) ?_
    clear hF; intro a hF
    refine wpList_nil ?_
    refine then_n ?_
    refine c_cond_t hF rfl ?_
    refine c_seq ?_
    refine c_region ?_
    refine seq_yl hF (wn_none rfl) rfl rfl (yl_assign hF rfl rfl) ?_
    clear hF; intro a hF
    refine wpList_nil ?_
    refine then_n ?_
    refine wp_ret ?_
    refine then_r ?_
    refine ret_t hF rfl rfl ?_
    replace hS := hS.addNil 9 1
    exact ⟨_, rfl, _, [], rfl, vers_no (fun h9 => by have h8 := h9.2; have h7 := okD_I h9.1; simp only [okW, okS, okI] at h8; first | exact absurd h9.1 (by assumption) | exact absurd h9.2 (by assumption) | omega), (hS.sub [0] (by decide) (by first | rfl | simp) (by simp))⟩

set_option maxRecDepth 100000 in
theorem vers2_any (st : ByteArray) (lv : Value) (L : List E39) (rm : Int) (s : Int) (w0 : World) (hv : Rd w0 2 lv (L).length (cells enc39 (L))) (hz : (st.size : Int) ≤ 9223372036854775807) (hL : L.length ≤ 1000000) :
    Fn Try.prog 30 #[.agg #[.string st, lv, .int .i64 rm], .int .i64 s] w0 (fun v w' => ∃ (v1 : Value) (M : List ByteArray), v = v1 ∧ M = vers st L rm s ∧ Sat w0 w' [.row 9 1 v1 (M).length (cells encS (M))]) := by
  obtain ⟨Alv, clv, rfl⟩ := Rd.form hv
  refine c_enter (N := 56) (l := [_, _]) Try.func30 rfl rfl (fun a w hF hS => ?_)
  replace hS := hS.addRo hv
  refine c_seq ?_
  refine c_region ?_
  refine seq_wp (wn_none rfl) (wp_box (cs := #[_, _, _]) hF hS rfl rfl rfl rfl rfl ?_)
  clear hF hS; intro a w g86 hF hS
  refine seq_yl hF (wn_none rfl) rfl rfl (yl_assign hF rfl rfl) ?_
  clear hF; intro a hF
  refine wpList_nil ?_
  refine then_n ?_
  refine c_seq ?_
  refine c_seq ?_
  refine c_region ?_
  refine seq_yl hF (wn_none rfl) rfl rfl (yl_loadK (rs := [_, _, _]) (fun _ h => h ▸ hS) hF rfl rfl 0 rfl ag25 sz25 rfl rfl) ?_
  clear hF; intro a hF
  refine seq_wp (wn_none rfl) (wp_call (vs := [_]) hF rfl rfl rfl rfl cf27 (dValid2_any st _ L (rm) _ (hS.rdRo 1 rfl) (by first | omega | (simp; done)) (by first | omega | (simp; done))) ?_)
  clear hF; rintro _ w ⟨rfl, hS1⟩ a hF
  replace hS := hS.callB hS1 rfl; clear hS1
  refine seq_yl hF (wn_none rfl) rfl rfl (yl_un hF rfl rfl (fun _ => run_not)) ?_
  clear hF; intro a hF
  refine seq_yl hF (wn_none rfl) rfl rfl (yl_move hF rfl rfl) ?_
  clear hF; intro a hF
  refine fr_split hF (fun hc87 hF => ?_) (fun hc87 hF => ?_)
  · first | (replace hc87 := of_decide_eq_true hc87) | (replace hc87 := of_decide_eq_false (bnot_t hc87)) | (subst hc87) | (replace hc87 := bnot_t hc87; subst hc87) | (replace hc87 := bnot_t hc87) | skip
    try (have hc87x := hc87; simp only [okS, okI, okW, okP] at hc87x)
    refine seq_skip hF (wn_f hF rfl rfl rfl rfl) rfl rfl ?_
    clear hF; intro a hF
    refine seq_skip hF (wn_f hF rfl rfl rfl rfl) rfl rfl ?_
    clear hF; intro a hF
    refine seq_yl hF (wn_none rfl) rfl rfl (yl_pick (u := _) (v := undef) hF rfl rfl (fun _ => rfl) (fun h => by cases h)) ?_
    clear hF; intro a hF
    refine seq_yl hF (wn_none rfl) rfl rfl (yl_move hF rfl rfl) ?_
    clear hF; intro a hF
    refine seq_skip hF (wn_f hF rfl rfl rfl rfl) rfl rfl ?_
    clear hF; intro a hF
    refine seq_skip hF (wn_f hF rfl rfl rfl rfl) rfl rfl ?_
    clear hF; intro a hF
    refine seq_skip hF (wn_f hF rfl rfl rfl rfl) rfl rfl ?_
    clear hF; intro a hF
    refine seq_skip hF (wn_f hF rfl rfl rfl rfl) rfl rfl ?_
    clear hF; intro a hF
    refine seq_yl hF (wn_none rfl) rfl rfl (yl_pick (u := _) (v := undef) hF rfl rfl (fun _ => rfl) (fun h => by cases h)) ?_
    clear hF; intro a hF
    refine wpList_nil ?_
    refine then_n ?_
    refine c_cond_t hF rfl ?_
    refine c_seq ?_
    refine c_region ?_
    refine seq_yl hF (wn_none rfl) rfl rfl (yl_assign hF rfl rfl) ?_
    clear hF; intro a hF
    refine wpList_nil ?_
    refine then_n ?_
    refine wp_ret ?_
    refine then_r ?_
    refine ret_t hF rfl rfl ?_
    replace hS := hS.addNil 9 1
    exact ⟨_, rfl, _, [], rfl, vers_no (fun h9 => by have h8 := h9.2; have h7 := okD_I h9.1; simp only [okW, okS, okI] at h8; first | exact absurd h9.1 (by assumption) | exact absurd h9.2 (by assumption) | omega), (hS.sub [0] (by decide) (by first | rfl | simp) (by simp))⟩
  · first | (replace hc87 := of_decide_eq_false hc87) | (replace hc87 := of_decide_eq_true (bnot_f hc87)) | (subst hc87) | (replace hc87 := bnot_f hc87; subst hc87) | (replace hc87 := bnot_f hc87) | skip
    try (have hc87x := hc87; simp only [okS, okI, okW, okP] at hc87x)
    refine seq_yl hF (wn_t hF rfl rfl rfl rfl) rfl rfl (yl_move hF rfl rfl) ?_
    clear hF; intro a hF
    refine seq_yl hF (wn_t hF rfl rfl rfl rfl) rfl rfl (yl_bin hF rfl rfl rfl rfl (fun _ => run_lss)) ?_
    clear hF; intro a hF
    refine seq_yl hF (wn_none rfl) rfl rfl (yl_pick (u := _) (v := undef) hF rfl rfl (fun h => by cases h) (fun _ => rfl)) ?_
    clear hF; intro a hF
    refine seq_yl hF (wn_none rfl) rfl rfl (yl_move hF rfl rfl) ?_
    clear hF; intro a hF
    refine fr_split hF (fun hc89 hF => ?_) (fun hc89 hF => ?_)
    · first | (replace hc89 := of_decide_eq_true hc89) | (replace hc89 := of_decide_eq_false (bnot_t hc89)) | (subst hc89) | (replace hc89 := bnot_t hc89; subst hc89) | (replace hc89 := bnot_t hc89) | skip
      try (have hc89x := hc89; simp only [okS, okI, okW, okP] at hc89x)
      refine seq_skip hF (wn_f hF rfl rfl rfl rfl) rfl rfl ?_
      clear hF; intro a hF
      refine seq_skip hF (wn_f hF rfl rfl rfl rfl) rfl rfl ?_
      clear hF; intro a hF
      refine seq_skip hF (wn_f hF rfl rfl rfl rfl) rfl rfl ?_
      clear hF; intro a hF
      refine seq_skip hF (wn_f hF rfl rfl rfl rfl) rfl rfl ?_
      clear hF; intro a hF
      refine seq_yl hF (wn_none rfl) rfl rfl (yl_pick (u := _) (v := undef) hF rfl rfl (fun _ => rfl) (fun h => by cases h)) ?_
      clear hF; intro a hF
      refine wpList_nil ?_
      refine then_n ?_
      refine c_cond_t hF rfl ?_
      refine c_seq ?_
      refine c_region ?_
      refine seq_yl hF (wn_none rfl) rfl rfl (yl_assign hF rfl rfl) ?_
      clear hF; intro a hF
      refine wpList_nil ?_
      refine then_n ?_
      refine wp_ret ?_
      refine then_r ?_
      refine ret_t hF rfl rfl ?_
      replace hS := hS.addNil 9 1
      exact ⟨_, rfl, _, [], rfl, vers_no (fun h9 => by have h8 := h9.2; have h7 := okD_I h9.1; simp only [okW, okS, okI] at h8; first | exact absurd h9.1 (by assumption) | exact absurd h9.2 (by assumption) | omega), (hS.sub [0] (by decide) (by first | rfl | simp) (by simp))⟩
    · first | (replace hc89 := of_decide_eq_false hc89) | (replace hc89 := of_decide_eq_true (bnot_f hc89)) | (subst hc89) | (replace hc89 := bnot_f hc89; subst hc89) | (replace hc89 := bnot_f hc89) | skip
      try (have hc89x := hc89; simp only [okS, okI, okW, okP] at hc89x)
      refine seq_yl hF (wn_t hF rfl rfl rfl rfl) rfl rfl (yl_move hF rfl rfl) ?_
      clear hF; intro a hF
      refine seq_yl hF (wn_t hF rfl rfl rfl rfl) rfl rfl (yl_loadK (rs := [_, _, _]) (fun _ h => h ▸ hS) hF rfl rfl 0 rfl ag25 sz25 rfl rfl) ?_
      clear hF; intro a hF
      refine seq_wp (wn_t hF rfl rfl rfl rfl) (wp_call (vs := [_]) hF rfl rfl rfl rfl cf13 (secs_any st _ _ _ (by omega)) ?_)
      clear hF; rintro _ w ⟨rfl, hS1⟩ a hF
      replace hS := hS.callB hS1 rfl; clear hS1
      refine seq_yl hF (wn_t hF rfl rfl rfl rfl) rfl rfl (yl_bin hF rfl rfl rfl rfl (fun _ => run_geq)) ?_
      clear hF; intro a hF
      refine seq_yl hF (wn_none rfl) rfl rfl (yl_pick (u := _) (v := undef) hF rfl rfl (fun h => by cases h) (fun _ => rfl)) ?_
      clear hF; intro a hF
      refine wpList_nil ?_
      refine then_n ?_
      refine c_cond hF rfl (fun hc91 => ?_) (fun hc91 => ?_)
      · first | (replace hc91 := of_decide_eq_true hc91) | (replace hc91 := of_decide_eq_false (bnot_t hc91)) | (subst hc91) | (replace hc91 := bnot_t hc91; subst hc91) | (replace hc91 := bnot_t hc91) | skip
        try (have hc91x := hc91; simp only [okS, okI, okW, okP] at hc91x)
        refine c_seq ?_
        refine c_region ?_
        refine seq_yl hF (wn_none rfl) rfl rfl (yl_assign hF rfl rfl) ?_
        clear hF; intro a hF
        refine wpList_nil ?_
        refine then_n ?_
        refine wp_ret ?_
        refine then_r ?_
        refine ret_t hF rfl rfl ?_
        replace hS := hS.addNil 9 1
        exact ⟨_, rfl, _, [], rfl, vers_no (fun h9 => by have h8 := h9.2; have h7 := okD_I h9.1; simp only [okW, okS, okI] at h8; first | exact absurd h9.1 (by assumption) | exact absurd h9.2 (by assumption) | omega), (hS.sub [0] (by decide) (by first | rfl | simp) (by simp))⟩
      · first | (replace hc91 := of_decide_eq_false hc91) | (replace hc91 := of_decide_eq_true (bnot_f hc91)) | (subst hc91) | (replace hc91 := bnot_f hc91; subst hc91) | (replace hc91 := bnot_f hc91) | skip
        try (have hc91x := hc91; simp only [okS, okI, okW, okP] at hc91x)
        refine wp_skip ?_
        refine then_n ?_
        refine c_seq ?_
        refine c_region ?_
        refine seq_yl hF (wn_none rfl) rfl rfl (yl_fieldAddr hF rfl rfl (fun w => by kernel_rfl : ∀ w, (Instr.fieldAt 25 (.pointer (some ⟨g86, 0, none⟩)) 0).run Try.prog w = .ok (.pointer (some ⟨g86, 0, none⟩)) w)) ?_
        clear hF; intro a hF
        refine seq_yl hF (wn_none rfl) rfl rfl (yl_load (fun _ h => h ▸ hS) hF rfl rfl 0 rfl ag9 rfl) ?_
        clear hF; intro a hF
        refine seq_yl hF (wn_none rfl) rfl rfl (yl_move hF rfl rfl) ?_
        clear hF; intro a hF
        refine seq_wp (wn_none rfl) (wp_call (vs := [_, _, _]) hF rfl rfl rfl rfl cf49 (imRead2_any st (s) (1 : Int) _ (by omega)) ?_)
        clear hF; rintro _ w ⟨xs93, e94, rfl, hsp95, hS1⟩ a hF
        replace hS := hS.callB hS1 rfl; clear hS1
        have hsp95z := fun h9 : okS ((st).size : Int) (s) (1 : Int) => subs_size (s := st) (i := (s) * 8) (j := ((s) + (1 : Int)) * 8) (by unfold okS at h9; omega) (by unfold okS at h9; omega) (by unfold okS okI at h9; omega)
        obtain ⟨hk96, rfl, rfl⟩ := hsp95.resolve_right (fun h9 => h9.1 (by have h8 := okD_I (‹okD st L rm› : okD st L rm); unfold okS okI; omega))
        try (have hk96x := hk96; simp only [okS, okI, okW, okP] at hk96x)
        refine seq_yl hF (wn_none rfl) rfl rfl (yl_move hF rfl rfl) ?_
        clear hF; intro a hF
        refine seq_yl hF (wn_none rfl) rfl rfl (yl_extract hF rfl rfl rfl) ?_
        clear hF; intro a hF
        refine seq_yl hF (wn_none rfl) rfl rfl (yl_extract hF rfl rfl rfl) ?_
        clear hF; intro a hF
        refine seq_yl hF (wn_none rfl) rfl rfl (yl_assign hF rfl rfl) ?_
        clear hF; intro a hF
        refine seq_yl hF (wn_none rfl) rfl rfl (yl_assign hF rfl rfl) ?_
        clear hF; intro a hF
        refine wpList_nil ?_
        refine then_n ?_
        refine c_seq ?_
        refine c_region ?_
        refine seq_yl hF (wn_none rfl) rfl rfl (yl_move hF rfl rfl) ?_
        clear hF; intro a hF
        refine seq_wp (wn_none rfl) (wp_bslice (parts := [(0, .tmp 29)]) (vs := [(0, _)]) (enc := encS) (e := 9) (size := 1) (cs := #[.string (subs st ((s) * 8) (((s) + (1 : Int)) * 8))]) hF hS rfl rfl rfl rfl ([(subs st ((s) * 8) (((s) + (1 : Int)) * 8))] : List ByteArray) (fun w => by kernel_rfl) rfl rfl rfl (by decide) ?_)
        clear hF hS; intro a w v97 hF hS
        obtain ⟨Av97, cv97, rfl⟩ := hS.form 0 rfl
        refine seq_yl hF (wn_none rfl) rfl rfl (yl_assign hF rfl rfl) ?_
        clear hF; intro a hF
        refine wpList_nil ?_
        refine then_n ?_
        refine c_seq ?_
        refine c_seq ?_
        refine c_region ?_
        refine seq_yl hF (wn_none rfl) rfl rfl (yl_assign hF rfl rfl) ?_
        clear hF; intro a hF
        refine wpList_nil ?_
        refine then_n ?_
        refine wp_block ?_
        refine c_loop (fun m a w => ∃ (k : Nat) (AvR : Option Addr) (mv cvR : Nat), m = L.length - k ∧ (k ≤ L.length) ∧ Fr 56 a [(1, .int .i64 (s)), (2, .pointer (some ⟨g86, 0, none⟩)), (7, .slice AvR mv cvR), (8, .int .i64 ((k : Nat) : Int))] ∧ Sat w0 w (.box g86 25 #[.string st, .slice Alv (L).length clv, .int .i64 (rm)] :: .ro 2 (.slice Alv (L).length clv) (L).length (cells enc39 (L)) :: .row 9 1 (.slice AvR mv cvR) ((versC st (L.take k) s)).length (cells encS ((versC st (L.take k) s))) :: [])) (L.length - 0) ?_ ?_
        · exact ⟨0, Av97, _, cv97, rfl, (Nat.zero_le _), hF.to [1, 2, 7, 8] rfl, (hS.sub [1, 2, 0] (by decide) (by first | rfl | simp) (by simp))⟩
        · clear hF hS; try clear hSS
          clear a w; rintro m a w ⟨k, AvR, mv, cvR, rfl, hinv, hF, hS⟩
          have hk : k ≤ L.length := hinv
          have hvl := versC_len st (L.take k) s
          have htl : (L.take k).length ≤ L.length := by simp; omega
          refine c_seq ?_
          refine c_seq ?_
          refine c_region ?_
          refine seq_yl hF (wn_none rfl) rfl rfl (yl_move hF rfl rfl) ?_
          clear hF; intro a hF
          refine seq_yl hF (wn_none rfl) rfl rfl (yl_fieldAddr hF rfl rfl (fun w => by kernel_rfl : ∀ w, (Instr.fieldAt 25 (.pointer (some ⟨g86, 0, none⟩)) 1).run Try.prog w = .ok (.pointer (some ⟨g86, 1, none⟩)) w)) ?_
          clear hF; intro a hF
          refine seq_yl hF (wn_none rfl) rfl rfl (yl_load (fun _ h => h ▸ hS) hF rfl rfl 0 rfl ag23 rfl) ?_
          clear hF; intro a hF
          refine seq_yl hF (wn_none rfl) rfl rfl (yl_len hF rfl rfl (fun _ => run_lenRd sl23 (hS.rdRo 1 rfl))) ?_
          clear hF; intro a hF
          refine seq_yl hF (wn_none rfl) rfl rfl (yl_bin hF rfl rfl rfl rfl (fun _ => run_lss)) ?_
          clear hF; intro a hF
          refine wpList_nil ?_
          refine then_n ?_
          refine c_cond hF rfl (fun hc98 => ?_) (fun hc98 => ?_)
          · first | (replace hc98 := of_decide_eq_true hc98) | (replace hc98 := of_decide_eq_false (bnot_t hc98)) | (subst hc98) | (replace hc98 := bnot_t hc98; subst hc98) | (replace hc98 := bnot_t hc98) | skip
            try (have hc98x := hc98; simp only [okS, okI, okW, okP] at hc98x)
            refine wp_skip ?_
            refine then_n ?_
            refine c_seq ?_
            refine wp_block ?_
            refine c_seq ?_
            refine c_region ?_
            refine seq_yl hF (wn_none rfl) rfl rfl (yl_fieldAddr hF rfl rfl (fun w => by kernel_rfl : ∀ w, (Instr.fieldAt 25 (.pointer (some ⟨g86, 0, none⟩)) 1).run Try.prog w = .ok (.pointer (some ⟨g86, 1, none⟩)) w)) ?_
            clear hF; intro a hF
            refine seq_yl hF (wn_none rfl) rfl rfl (yl_load (fun _ h => h ▸ hS) hF rfl rfl 0 rfl ag23 rfl) ?_
            clear hF; intro a hF
            refine seq_yl hF (wn_none rfl) rfl rfl (yl_move hF rfl rfl) ?_
            clear hF; intro a hF
            have hlt_hx99 : k < (L).length := by first | omega | (simp; done) | (simp; omega)
            obtain ⟨ad100, rfl⟩ := rd_some (hS.rdRo 1 rfl) hlt_hx99
            obtain ⟨x99, hx99⟩ := get_some hlt_hx99
            refine seq_yl hF (wn_none rfl) rfl rfl (yl_indexAddr hF rfl rfl rfl (fun _ => run_idx' sl23 sz39 (hS.rdRo 1 rfl) hlt_hx99)) ?_
            clear hF; intro a hF
            refine seq_yl hF (wn_none rfl) rfl rfl (yl_fieldAddr hF rfl rfl (fun w => run_fa0 fo39_0)) ?_
            clear hF; intro a hF
            refine seq_yl hF (wn_none rfl) rfl rfl (yl_loadAt hF rfl rfl ag3 (fun _ h => rd_cell0 (enc := enc39) (by subst h; exact hS.rdRo 1 rfl) enc39_len hx99 rfl rfl)) ?_
            clear hF; intro a hF
            refine seq_yl hF (wn_none rfl) rfl rfl (yl_move hF rfl rfl) ?_
            clear hF; intro a hF
            refine seq_yl hF (wn_none rfl) rfl rfl (yl_bin hF rfl rfl rfl rfl (fun _ => run_eql)) ?_
            clear hF; intro a hF
            refine wpList_nil ?_
            refine then_n ?_
            refine c_cond hF rfl (fun hc101 => ?_) (fun hc101 => ?_)
            · first | (replace hc101 := of_decide_eq_true hc101) | (replace hc101 := of_decide_eq_false (bnot_t hc101)) | (subst hc101) | (replace hc101 := bnot_t hc101; subst hc101) | (replace hc101 := bnot_t hc101) | skip
              try (have hc101x := hc101; simp only [okS, okI, okW, okP] at hc101x)
              refine c_region ?_
              refine seq_yl hF (wn_none rfl) rfl rfl (yl_move hF rfl rfl) ?_
              clear hF; intro a hF
              refine seq_yl hF (wn_none rfl) rfl rfl (yl_fieldAddr hF rfl rfl (fun w => by kernel_rfl : ∀ w, (Instr.fieldAt 25 (.pointer (some ⟨g86, 0, none⟩)) 1).run Try.prog w = .ok (.pointer (some ⟨g86, 1, none⟩)) w)) ?_
              clear hF; intro a hF
              refine seq_yl hF (wn_none rfl) rfl rfl (yl_load (fun _ h => h ▸ hS) hF rfl rfl 0 rfl ag23 rfl) ?_
              clear hF; intro a hF
              refine seq_yl hF (wn_none rfl) rfl rfl (yl_move hF rfl rfl) ?_
              clear hF; intro a hF
              refine seq_yl hF (wn_none rfl) rfl rfl (yl_indexAddr hF rfl rfl rfl (fun _ => run_idx' sl23 sz39 (hS.rdRo 1 rfl) hlt_hx99)) ?_
              clear hF; intro a hF
              refine seq_yl hF (wn_none rfl) rfl rfl (yl_fieldAddr hF rfl rfl (fun w => run_fa fo39_1)) ?_
              clear hF; intro a hF
              refine seq_yl hF (wn_none rfl) rfl rfl (yl_loadAt hF rfl rfl ag9 (fun _ h => rd_cell (j := 1) (enc := enc39) (by subst h; exact hS.rdRo 1 rfl) enc39_len hx99 rfl rfl)) ?_
              clear hF; intro a hF
              refine seq_wp (wn_none rfl) (wp_bslice (parts := [(0, .tmp 52)]) (vs := [(0, _)]) (enc := encS) (e := 9) (size := 1) (cs := #[.string x99.f1]) hF hS rfl rfl rfl rfl ([x99.f1] : List ByteArray) (fun w => by kernel_rfl) rfl rfl rfl (by decide) ?_)
              clear hF hS; intro a w v102 hF hS
              obtain ⟨Av102, cv102, rfl⟩ := hS.form 0 rfl
              refine seq_wp (wn_none rfl) (wp_app (enc := encS) hF hS rfl rfl rfl rfl rfl 3 rfl sl32 inf9 rfl (by decide) (hS.rdRow 0 rfl) encS_one (by decide) (by first | omega | (simp only [List.length_append, List.length_cons, List.length_nil]; omega) | (simp; omega)) ?_)
              clear hF hS; intro a w v103 hF hS
              obtain ⟨Av103, cv103, rfl⟩ := hS.form 3 rfl
              refine seq_yl hF (wn_none rfl) rfl rfl (yl_assign hF rfl rfl) ?_
              clear hF; intro a hF
              refine wpList_nil ?_
              refine inb_n ?_
              refine then_n ?_
              refine c_region ?_
              refine seq_yl hF (wn_none rfl) rfl rfl (yl_move hF rfl rfl) ?_
              clear hF; intro a hF
              refine seq_yl hF (wn_none rfl) rfl rfl (yl_bin hF rfl rfl rfl rfl (fun _ => run_inc (by omega))) ?_
              clear hF; intro a hF
              refine seq_yl hF (wn_none rfl) rfl rfl (yl_assign hF rfl rfl) ?_
              clear hF; intro a hF
              refine wpList_nil ?_
              refine then_n ?_
              rw [versC_in hx99 (by omega)] at hS hF
              exact ⟨_, (by omega), k + 1, Av103, _, cv103, rfl, (show _ ≤ _ by omega), hF.to [1, 2, 7, 8] rfl, (hS.sub [1, 2, 3] (by decide) (by first | rfl | simp) (by simp))⟩
            · first | (replace hc101 := of_decide_eq_false hc101) | (replace hc101 := of_decide_eq_true (bnot_f hc101)) | (subst hc101) | (replace hc101 := bnot_f hc101; subst hc101) | (replace hc101 := bnot_f hc101) | skip
              try (have hc101x := hc101; simp only [okS, okI, okW, okP] at hc101x)
              refine wp_skip ?_
              refine inb_n ?_
              refine then_n ?_
              refine c_region ?_
              refine seq_yl hF (wn_none rfl) rfl rfl (yl_move hF rfl rfl) ?_
              clear hF; intro a hF
              refine seq_yl hF (wn_none rfl) rfl rfl (yl_bin hF rfl rfl rfl rfl (fun _ => run_inc (by omega))) ?_
              clear hF; intro a hF
              refine seq_yl hF (wn_none rfl) rfl rfl (yl_assign hF rfl rfl) ?_
              clear hF; intro a hF
              refine wpList_nil ?_
              refine then_n ?_
              rw [versC_out hx99 (by omega)] at hS
              exact ⟨_, (by omega), k + 1, AvR, _, cvR, rfl, (show _ ≤ _ by omega), hF.to [1, 2, 7, 8] rfl, (hS.sub [0, 1, 2] (by decide) (by first | rfl | simp) (by simp))⟩
          · first | (replace hc98 := of_decide_eq_false hc98) | (replace hc98 := of_decide_eq_true (bnot_f hc98)) | (subst hc98) | (replace hc98 := bnot_f hc98; subst hc98) | (replace hc98 := bnot_f hc98) | skip
            try (have hc98x := hc98; simp only [okS, okI, okW, okP] at hc98x)
            refine wp_exit ?_
            refine then_x ?_
            refine then_x ?_
            refine inb_x ?_
            refine then_n ?_
            refine c_seq ?_
            refine c_region ?_
            refine seq_yl hF (wn_none rfl) rfl rfl (yl_move hF rfl rfl) ?_
            clear hF; intro a hF
            refine seq_yl hF (wn_none rfl) rfl rfl (yl_assign hF rfl rfl) ?_
            clear hF; intro a hF
            refine wpList_nil ?_
            refine then_n ?_
            refine wp_ret ?_
            refine ret_t hF rfl rfl ?_
            exact ⟨_, rfl, _, _, rfl, vers_yes (k := k) (‹okD st L rm› : okD st L rm) (by first | assumption | (have h8 := okD_I (‹okD st L rm› : okD st L rm); unfold okS okI; omega)) (by omega), (hS.sub [2] (by decide) (by first | rfl | simp) (by simp))⟩

end Go.Proofs.Yteidhjdkaaddgaa

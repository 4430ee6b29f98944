/- walks, printed by wip/gen -/
import Derived.Test.YtlhcpeolkkadbaaWa
namespace Go.Proofs.Ytlhcpeolkkadbaa
open Go.RowKit
set_option linter.unusedVariables false
set_option linter.unusedSimpArgs false

set_option maxRecDepth 100000 in
theorem cvers_any (st : ByteArray) (lv : Value) (L : List E59) (rm : Int) (fv : Value) (F : List E59) (s : Int) (w0 : World) (hv : Rd w0 2 lv (L).length (cells enc59 (L))) (hz : (st.size : Int) ≤ 9223372036854775807) (hL : L.length ≤ 1000000) (hf : Rd w0 2 fv (F).length (cells enc59 (F))) (hF0 : F.length ≤ 1000000) (hd : okD st L rm) (hs : okS (st.size : Int) s 1) :
    Fn Try.prog 36 #[.agg #[.string st, lv, .int .i64 rm], fv, .int .i64 s] w0 (fun v w' => ∃ (v1 : Value), v = v1 ∧ Sat w0 w' [.row 9 1 v1 ((versC st (L ++ F) s)).length (cells encS ((versC st (L ++ F) s)))]) := by
  obtain ⟨Alv, clv, rfl⟩ := Rd.form hv
  obtain ⟨Afv, cfv, rfl⟩ := Rd.form hf
  refine c_enter (N := 30) (l := [_, _, _]) Try.func36 rfl rfl (fun a w hF hS => ?_)
  replace hS := hS.addRo hf
  replace hS := hS.addRo hv
  refine c_seq ?_
  refine c_region ?_
  refine seq_wp (wn_none rfl) (wp_box (cs := #[_, _, _]) hF hS rfl rfl rfl rfl rfl ?_)
  clear hF hS; intro a w g238 hF hS
  refine seq_yl hF (wn_none rfl) rfl rfl (yl_assign hF rfl rfl) ?_
  clear hF; intro a hF
  refine wpList_nil ?_
  refine then_n ?_
  refine c_seq ?_
  refine c_region ?_
  refine seq_yl hF (wn_none rfl) rfl rfl (yl_loadK (rs := [_, _, _]) (fun _ h => h ▸ hS) hF rfl rfl 0 rfl ag24 sz24 rfl rfl) ?_
  clear hF; intro a hF
  refine seq_yl hF (wn_none rfl) rfl rfl (yl_move hF rfl rfl) ?_
  clear hF; intro a hF
  refine seq_wp (wn_none rfl) (wp_call (vs := [_, _]) hF rfl rfl rfl rfl cf54 (vers_any st _ L (rm) (s) _ (hS.rdRo 1 rfl) (by first | omega | (simp; done)) (by first | omega | (simp; done))) ?_)
  clear hF; rintro _ w ⟨v239, M240, rfl, hM241, hS1⟩ a hF
  replace hS := hS.callB hS1 rfl; clear hS1
  obtain ⟨Av239, cv239, rfl⟩ := hS.form 0 rfl
  have hM241l := vers_len st L (rm) (s); rw [← hM241] at hM241l
  have hM2412 : M240 = versC st L (s) := hM241.trans (if_pos ⟨hd, hs⟩)
  have hM241n := versC_len st L (s); rw [← hM2412] at hM241n
  refine seq_yl hF (wn_none rfl) rfl rfl (yl_assign hF rfl rfl) ?_
  clear hF; intro a hF
  refine wpList_nil ?_
  refine then_n ?_
  refine c_seq ?_
  refine c_seq ?_
  refine c_region ?_
  have hMz := hM2412.trans (versD_zero st L F s)
  subst hMz
  refine seq_yl hF (wn_none rfl) rfl rfl (yl_move hF rfl rfl) ?_
  clear hF; intro a hF
  refine seq_yl hF (wn_none rfl) rfl rfl (yl_len hF rfl rfl (fun _ => run_lenRd sl22 (hS.rdRo 3 rfl))) ?_
  clear hF; intro a hF
  refine seq_yl hF (wn_none rfl) rfl rfl (yl_move hF rfl rfl) ?_
  clear hF; intro a hF
  refine wpList_nil ?_
  refine then_n ?_
  refine wp_block ?_
  refine c_loop (fun m a w => ∃ (k : Nat) (AvR : Option Addr) (mv cvR : Nat), m = F.length - k ∧ (k ≤ F.length) ∧ Fr 30 a [(2, .int .i64 (s)), (7, .slice AvR mv cvR), (13, .slice Afv (F).length cfv), (14, .int .i64 (((F).length : Nat) : Int)), (15, .int .i64 ((k : Nat) : Int))] ∧ Sat w0 w (.ro 2 (.slice Afv (F).length cfv) (F).length (cells enc59 (F)) :: .row 9 1 (.slice AvR mv cvR) ((versC st (L ++ F.take k) s)).length (cells encS ((versC st (L ++ F.take k) s))) :: [])) (F.length - 0) ?_ ?_
  · exact ⟨0, Av239, _, cv239, rfl, (Nat.zero_le _), hF.to [2, 7, 13, 14, 15] rfl, (hS.sub [3, 0] (by decide) (by first | rfl | simp) (by simp))⟩
  · clear hF hS; try clear hSS
    clear a w; rintro m a w ⟨k, AvR, mv, cvR, rfl, hinv, hF, hS⟩
    have hk : k ≤ F.length := hinv
    have hvl := versC_len st (L ++ F.take k) s
    have htl : (L ++ F.take k).length ≤ L.length + F.length := by simp; omega
    refine c_seq ?_
    refine c_region ?_
    refine seq_yl hF (wn_none rfl) rfl rfl (yl_bin hF rfl rfl rfl rfl (fun _ => run_lss)) ?_
    clear hF; intro a hF
    refine wpList_nil ?_
    refine then_n ?_
    refine c_seq ?_
    refine c_cond hF rfl (fun hc242 => ?_) (fun hc242 => ?_)
    · first | (replace hc242 := of_decide_eq_true hc242) | (replace hc242 := of_decide_eq_false (bnot_t hc242)) | (subst hc242) | (replace hc242 := bnot_t hc242; subst hc242) | (replace hc242 := bnot_t hc242) | skip
      try (have hc242x := hc242; simp only [okS, okI, okW, okP] at hc242x)
      refine wp_skip ?_
      refine then_n ?_
      refine c_seq ?_
      refine wp_block ?_
      refine c_seq ?_
      refine c_region ?_
      have hlt_hx243 : k < (F).length := by first | omega | (simp; done) | (simp; omega)
      obtain ⟨ad244, rfl⟩ := rd_some (hS.rdRo 0 rfl) hlt_hx243
      obtain ⟨x243, hx243⟩ := get_some hlt_hx243
      refine seq_yl hF (wn_none rfl) rfl rfl (yl_indexAddr hF rfl rfl rfl (fun _ => run_idx' sl22 sz59 (hS.rdRo 0 rfl) hlt_hx243)) ?_
      clear hF; intro a hF
      refine seq_yl hF (wn_none rfl) rfl rfl (yl_loadEl (rs := [.int .i64 (x243.f0), .string x243.f1]) hF rfl rfl ag59 sz59 rfl (fun _ h => rd_cells (enc := enc59) (by subst h; exact hS.rdRo 0 rfl) enc59_len hx243)) ?_
      clear hF; intro a hF
      refine seq_wp (wn_none rfl) (wp_alloc (cs := #[_, _]) hF hS rfl rfl rfl zr59 rfl ?_)
      clear hF hS; intro a w g245 hF hS
      refine seq_wp (wn_none rfl) (wp_store (cs' := #[_, _]) hF hS rfl rfl rfl rfl 0 rfl sz59 (by simp [Value.cells, Value.oneCell']) (by simp [Value.cells]) rfl ?_)
      clear hF hS; intro a w hF hS
      refine wpList_nil ?_
      refine then_n ?_
      refine c_seq ?_
      refine c_region ?_
      refine seq_yl hF (wn_none rfl) rfl rfl (yl_fieldAddr hF rfl rfl (fun w => by kernel_rfl : ∀ w, (Instr.fieldAt 59 (.pointer (some ⟨g245, 0, none⟩)) 0).run Try.prog w = .ok (.pointer (some ⟨g245, 0, none⟩)) w)) ?_
      clear hF; intro a hF
      refine seq_yl hF (wn_none rfl) rfl rfl (yl_load (fun _ h => h ▸ hS) hF rfl rfl 0 rfl ag3 rfl) ?_
      clear hF; intro a hF
      refine seq_yl hF (wn_none rfl) rfl rfl (yl_move hF rfl rfl) ?_
      clear hF; intro a hF
      refine seq_yl hF (wn_none rfl) rfl rfl (yl_bin hF rfl rfl rfl rfl (fun _ => run_eql)) ?_
      clear hF; intro a hF
      refine wpList_nil ?_
      refine then_n ?_
      refine c_cond hF rfl (fun hc246 => ?_) (fun hc246 => ?_)
      · first | (replace hc246 := of_decide_eq_true hc246) | (replace hc246 := of_decide_eq_false (bnot_t hc246)) | (subst hc246) | (replace hc246 := bnot_t hc246; subst hc246) | (replace hc246 := bnot_t hc246) | skip
        try (have hc246x := hc246; simp only [okS, okI, okW, okP] at hc246x)
        refine c_region ?_
        refine seq_yl hF (wn_none rfl) rfl rfl (yl_move hF rfl rfl) ?_
        clear hF; intro a hF
        refine seq_yl hF (wn_none rfl) rfl rfl (yl_fieldAddr hF rfl rfl (fun w => by kernel_rfl : ∀ w, (Instr.fieldAt 59 (.pointer (some ⟨g245, 0, none⟩)) 1).run Try.prog w = .ok (.pointer (some ⟨g245, 1, none⟩)) w)) ?_
        clear hF; intro a hF
        refine seq_yl hF (wn_none rfl) rfl rfl (yl_load (fun _ h => h ▸ hS) hF rfl rfl 0 rfl ag9 rfl) ?_
        clear hF; intro a hF
        refine seq_wp (wn_none rfl) (wp_bslice (parts := [(0, .tmp 25)]) (vs := [(0, _)]) (enc := encS) (e := 9) (size := 1) (cs := #[.string x243.f1]) hF hS rfl rfl rfl rfl ([x243.f1] : List ByteArray) (fun w => by kernel_rfl) rfl rfl rfl (by decide) ?_)
        clear hF hS; intro a w v247 hF hS
        obtain ⟨Av247, cv247, rfl⟩ := hS.form 0 rfl
        refine seq_wp (wn_none rfl) (wp_app (enc := encS) hF hS rfl rfl rfl rfl rfl 3 rfl sl52 inf9 rfl (by decide) (hS.rdRow 0 rfl) encS_one (by decide) (by first | omega | (simp only [List.length_append, List.length_cons, List.length_nil]; omega) | (simp; omega)) ?_)
        clear hF hS; intro a w v248 hF hS
        obtain ⟨Av248, cv248, rfl⟩ := hS.form 3 rfl
        refine seq_yl hF (wn_none rfl) rfl rfl (yl_assign hF rfl rfl) ?_
        clear hF; intro a hF
        refine wpList_nil ?_
        refine inb_n ?_
        refine then_n ?_
        refine c_region ?_
        refine seq_yl hF (wn_none rfl) rfl rfl (yl_bin hF rfl rfl rfl rfl (fun _ => run_inc (by omega))) ?_
        clear hF; intro a hF
        refine seq_yl hF (wn_none rfl) rfl rfl (yl_move hF rfl rfl) ?_
        clear hF; intro a hF
        refine wpList_nil ?_
        refine then_n ?_
        rw [versD_in hx243 (by omega)] at hS hF
        exact ⟨_, (by omega), k + 1, Av248, _, cv248, rfl, (show _ ≤ _ by omega), hF.to [2, 7, 13, 14, 15] rfl, (hS.sub [2, 3] (by decide) (by first | rfl | simp) (by simp))⟩
      · first | (replace hc246 := of_decide_eq_false hc246) | (replace hc246 := of_decide_eq_true (bnot_f hc246)) | (subst hc246) | (replace hc246 := bnot_f hc246; subst hc246) | (replace hc246 := bnot_f hc246) | skip
        try (have hc246x := hc246; simp only [okS, okI, okW, okP] at hc246x)
        refine wp_skip ?_
        refine inb_n ?_
        refine then_n ?_
        refine c_region ?_
        refine seq_yl hF (wn_none rfl) rfl rfl (yl_bin hF rfl rfl rfl rfl (fun _ => run_inc (by omega))) ?_
        clear hF; intro a hF
        refine seq_yl hF (wn_none rfl) rfl rfl (yl_move hF rfl rfl) ?_
        clear hF; intro a hF
        refine wpList_nil ?_
        refine then_n ?_
        rw [versD_out hx243 (by omega)] at hS
        exact ⟨_, (by omega), k + 1, AvR, _, cvR, rfl, (show _ ≤ _ by omega), hF.to [2, 7, 13, 14, 15] rfl, (hS.sub [1, 2] (by decide) (by first | rfl | simp) (by simp))⟩
    · first | (replace hc242 := of_decide_eq_false hc242) | (replace hc242 := of_decide_eq_true (bnot_f hc242)) | (subst hc242) | (replace hc242 := bnot_f hc242; subst hc242) | (replace hc242 := bnot_f hc242) | skip
      try (have hc242x := hc242; simp only [okS, okI, okW, okP] at hc242x)
      refine wp_exit ?_
      refine then_x ?_
      refine then_x ?_
      refine inb_x ?_
      refine then_n ?_
      refine c_seq ?_
      refine c_region ?_
      refine seq_yl hF (wn_none rfl) rfl rfl (yl_move hF rfl rfl) ?_
      clear hF; intro a hF
      refine seq_yl hF (wn_none rfl) rfl rfl (yl_assign hF rfl rfl) ?_
      clear hF; intro a hF
      refine wpList_nil ?_
      refine then_n ?_
      refine wp_ret ?_
      refine ret_t hF rfl rfl ?_
      rw [show F.take k = F from List.take_of_length_le (by omega)] at hS; exact ⟨_, rfl, _, rfl, (hS.sub [1] (by decide) (by first | rfl | simp) (by simp))⟩

set_option maxRecDepth 100000 in
theorem cvers2_any (st : ByteArray) (lv : Value) (L : List E59) (rm : Int) (fv : Value) (F : List E59) (s : Int) (w0 : World) (hv : Rd w0 2 lv (L).length (cells enc59 (L))) (hz : (st.size : Int) ≤ 9223372036854775807) (hL : L.length ≤ 1000000) (hf : Rd w0 2 fv (F).length (cells enc59 (F))) (hF0 : F.length ≤ 1000000) (hd : okD st L rm) (hs : okS (st.size : Int) s 1) :
    Fn Try.prog 38 #[.agg #[.string st, lv, .int .i64 rm], fv, .int .i64 s] w0 (fun v w' => ∃ (v1 : Value), v = v1 ∧ Sat w0 w' [.row 9 1 v1 ((versC st (L ++ F) s)).length (cells encS ((versC st (L ++ F) s)))]) := by
  obtain ⟨Alv, clv, rfl⟩ := Rd.form hv
  obtain ⟨Afv, cfv, rfl⟩ := Rd.form hf
  refine c_enter (N := 34) (l := [_, _, _]) Try.func38 rfl rfl (fun a w hF hS => ?_)
  replace hS := hS.addRo hf
  replace hS := hS.addRo hv
  refine c_seq ?_
  refine c_region ?_
  refine seq_wp (wn_none rfl) (wp_box (cs := #[_, _, _]) hF hS rfl rfl rfl rfl rfl ?_)
  clear hF hS; intro a w g249 hF hS
  refine seq_yl hF (wn_none rfl) rfl rfl (yl_assign hF rfl rfl) ?_
  clear hF; intro a hF
  refine wpList_nil ?_
  refine then_n ?_
  refine c_seq ?_
  refine c_region ?_
  refine seq_yl hF (wn_none rfl) rfl rfl (yl_loadK (rs := [_, _, _]) (fun _ h => h ▸ hS) hF rfl rfl 0 rfl ag24 sz24 rfl rfl) ?_
  clear hF; intro a hF
  refine seq_yl hF (wn_none rfl) rfl rfl (yl_move hF rfl rfl) ?_
  clear hF; intro a hF
  refine seq_wp (wn_none rfl) (wp_call (vs := [_, _]) hF rfl rfl rfl rfl cf30 (vers2_any st _ L (rm) (s) _ (hS.rdRo 1 rfl) (by first | omega | (simp; done)) (by first | omega | (simp; done))) ?_)
  clear hF; rintro _ w ⟨v250, M251, rfl, hM252, hS1⟩ a hF
  replace hS := hS.callB hS1 rfl; clear hS1
  obtain ⟨Av250, cv250, rfl⟩ := hS.form 0 rfl
  have hM252l := vers_len st L (rm) (s); rw [← hM252] at hM252l
  have hM2522 : M251 = versC st L (s) := hM252.trans (if_pos ⟨hd, hs⟩)
  have hM252n := versC_len st L (s); rw [← hM2522] at hM252n
  refine seq_yl hF (wn_none rfl) rfl rfl (yl_assign hF rfl rfl) ?_
  clear hF; intro a hF
  refine wpList_nil ?_
  refine then_n ?_
  refine c_seq ?_
  refine c_seq ?_
  refine c_region ?_
  have hMz := hM2522.trans (versD_zero st L F s)
  subst hMz
  refine seq_yl hF (wn_none rfl) rfl rfl (yl_assign hF rfl rfl) ?_
  clear hF; intro a hF
  refine wpList_nil ?_
  refine then_n ?_
  refine wp_block ?_
  refine c_loop (fun m a w => ∃ (k : Nat) (AvR : Option Addr) (mv cvR : Nat), m = F.length - k ∧ (k ≤ F.length) ∧ Fr 34 a [(1, .slice Afv (F).length cfv), (2, .int .i64 (s)), (7, .slice AvR mv cvR), (8, .int .i64 ((k : Nat) : Int))] ∧ Sat w0 w (.ro 2 (.slice Afv (F).length cfv) (F).length (cells enc59 (F)) :: .row 9 1 (.slice AvR mv cvR) ((versC st (L ++ F.take k) s)).length (cells encS ((versC st (L ++ F.take k) s))) :: [])) (F.length - 0) ?_ ?_
  · exact ⟨0, Av250, _, cv250, rfl, (Nat.zero_le _), hF.to [1, 2, 7, 8] rfl, (hS.sub [3, 0] (by decide) (by first | rfl | simp) (by simp))⟩
  · clear hF hS; try clear hSS
    clear a w; rintro m a w ⟨k, AvR, mv, cvR, rfl, hinv, hF, hS⟩
    have hk : k ≤ F.length := hinv
    have hvl := versC_len st (L ++ F.take k) s
    have htl : (L ++ F.take k).length ≤ L.length + F.length := by simp; omega
    refine c_seq ?_
    refine c_seq ?_
    refine c_region ?_
    refine seq_yl hF (wn_none rfl) rfl rfl (yl_move hF rfl rfl) ?_
    clear hF; intro a hF
    refine seq_yl hF (wn_none rfl) rfl rfl (yl_move hF rfl rfl) ?_
    clear hF; intro a hF
    refine seq_yl hF (wn_none rfl) rfl rfl (yl_len hF rfl rfl (fun _ => run_lenRd sl22 (hS.rdRo 0 rfl))) ?_
    clear hF; intro a hF
    refine seq_yl hF (wn_none rfl) rfl rfl (yl_bin hF rfl rfl rfl rfl (fun _ => run_lss)) ?_
    clear hF; intro a hF
    refine wpList_nil ?_
    refine then_n ?_
    refine c_cond hF rfl (fun hc253 => ?_) (fun hc253 => ?_)
    · first | (replace hc253 := of_decide_eq_true hc253) | (replace hc253 := of_decide_eq_false (bnot_t hc253)) | (subst hc253) | (replace hc253 := bnot_t hc253; subst hc253) | (replace hc253 := bnot_t hc253) | skip
      try (have hc253x := hc253; simp only [okS, okI, okW, okP] at hc253x)
      refine wp_skip ?_
      refine then_n ?_
      refine c_seq ?_
      refine wp_block ?_
      refine c_seq ?_
      refine c_region ?_
      refine seq_yl hF (wn_none rfl) rfl rfl (yl_move hF rfl rfl) ?_
      clear hF; intro a hF
      refine seq_yl hF (wn_none rfl) rfl rfl (yl_move hF rfl rfl) ?_
      clear hF; intro a hF
      have hlt_hx254 : k < (F).length := by first | omega | (simp; done) | (simp; omega)
      obtain ⟨ad255, rfl⟩ := rd_some (hS.rdRo 0 rfl) hlt_hx254
      obtain ⟨x254, hx254⟩ := get_some hlt_hx254
      refine seq_yl hF (wn_none rfl) rfl rfl (yl_indexAddr hF rfl rfl rfl (fun _ => run_idx' sl22 sz59 (hS.rdRo 0 rfl) hlt_hx254)) ?_
      clear hF; intro a hF
      refine seq_yl hF (wn_none rfl) rfl rfl (yl_fieldAddr hF rfl rfl (fun w => run_fa0 fo59_0)) ?_
      clear hF; intro a hF
      refine seq_yl hF (wn_none rfl) rfl rfl (yl_loadAt hF rfl rfl ag3 (fun _ h => rd_cell0 (enc := enc59) (by subst h; exact hS.rdRo 0 rfl) enc59_len hx254 rfl rfl)) ?_
      clear hF; intro a hF
      refine seq_yl hF (wn_none rfl) rfl rfl (yl_move hF rfl rfl) ?_
      clear hF; intro a hF
      refine seq_yl hF (wn_none rfl) rfl rfl (yl_bin hF rfl rfl rfl rfl (fun _ => run_eql)) ?_
      clear hF; intro a hF
      refine wpList_nil ?_
      refine then_n ?_
      refine c_cond hF rfl (fun hc256 => ?_) (fun hc256 => ?_)
      · first | (replace hc256 := of_decide_eq_true hc256) | (replace hc256 := of_decide_eq_false (bnot_t hc256)) | (subst hc256) | (replace hc256 := bnot_t hc256; subst hc256) | (replace hc256 := bnot_t hc256) | skip
        try (have hc256x := hc256; simp only [okS, okI, okW, okP] at hc256x)
        refine c_region ?_
        refine seq_yl hF (wn_none rfl) rfl rfl (yl_move hF rfl rfl) ?_
        clear hF; intro a hF
        refine seq_yl hF (wn_none rfl) rfl rfl (yl_move hF rfl rfl) ?_
        clear hF; intro a hF
        refine seq_yl hF (wn_none rfl) rfl rfl (yl_move hF rfl rfl) ?_
        clear hF; intro a hF
        refine seq_yl hF (wn_none rfl) rfl rfl (yl_indexAddr hF rfl rfl rfl (fun _ => run_idx' sl22 sz59 (hS.rdRo 0 rfl) hlt_hx254)) ?_
        clear hF; intro a hF
        refine seq_yl hF (wn_none rfl) rfl rfl (yl_fieldAddr hF rfl rfl (fun w => run_fa fo59_1)) ?_
        clear hF; intro a hF
        refine seq_yl hF (wn_none rfl) rfl rfl (yl_loadAt hF rfl rfl ag9 (fun _ h => rd_cell (j := 1) (enc := enc59) (by subst h; exact hS.rdRo 0 rfl) enc59_len hx254 rfl rfl)) ?_
        clear hF; intro a hF
        refine seq_wp (wn_none rfl) (wp_bslice (parts := [(0, .tmp 30)]) (vs := [(0, _)]) (enc := encS) (e := 9) (size := 1) (cs := #[.string x254.f1]) hF hS rfl rfl rfl rfl ([x254.f1] : List ByteArray) (fun w => by kernel_rfl) rfl rfl rfl (by decide) ?_)
        clear hF hS; intro a w v257 hF hS
        obtain ⟨Av257, cv257, rfl⟩ := hS.form 0 rfl
        refine seq_wp (wn_none rfl) (wp_app (enc := encS) hF hS rfl rfl rfl rfl rfl 2 rfl sl52 inf9 rfl (by decide) (hS.rdRow 0 rfl) encS_one (by decide) (by first | omega | (simp only [List.length_append, List.length_cons, List.length_nil]; omega) | (simp; omega)) ?_)
        clear hF hS; intro a w v258 hF hS
        obtain ⟨Av258, cv258, rfl⟩ := hS.form 2 rfl
        refine seq_yl hF (wn_none rfl) rfl rfl (yl_assign hF rfl rfl) ?_
        clear hF; intro a hF
        refine wpList_nil ?_
        refine inb_n ?_
        refine then_n ?_
        refine c_region ?_
        refine seq_yl hF (wn_none rfl) rfl rfl (yl_move hF rfl rfl) ?_
        clear hF; intro a hF
        refine seq_yl hF (wn_none rfl) rfl rfl (yl_bin hF rfl rfl rfl rfl (fun _ => run_inc (by omega))) ?_
        clear hF; intro a hF
        refine seq_yl hF (wn_none rfl) rfl rfl (yl_assign hF rfl rfl) ?_
        clear hF; intro a hF
        refine wpList_nil ?_
        refine then_n ?_
        rw [versD_in hx254 (by omega)] at hS hF
        exact ⟨_, (by omega), k + 1, Av258, _, cv258, rfl, (show _ ≤ _ by omega), hF.to [1, 2, 7, 8] rfl, (hS.sub [1, 2] (by decide) (by first | rfl | simp) (by simp))⟩
      · first | (replace hc256 := of_decide_eq_false hc256) | (replace hc256 := of_decide_eq_true (bnot_f hc256)) | (subst hc256) | (replace hc256 := bnot_f hc256; subst hc256) | (replace hc256 := bnot_f hc256) | skip
        try (have hc256x := hc256; simp only [okS, okI, okW, okP] at hc256x)
        refine wp_skip ?_
        refine inb_n ?_
        refine then_n ?_
        refine c_region ?_
        refine seq_yl hF (wn_none rfl) rfl rfl (yl_move hF rfl rfl) ?_
        clear hF; intro a hF
        refine seq_yl hF (wn_none rfl) rfl rfl (yl_bin hF rfl rfl rfl rfl (fun _ => run_inc (by omega))) ?_
        clear hF; intro a hF
        refine seq_yl hF (wn_none rfl) rfl rfl (yl_assign hF rfl rfl) ?_
        clear hF; intro a hF
        refine wpList_nil ?_
        refine then_n ?_
        rw [versD_out hx254 (by omega)] at hS
        exact ⟨_, (by omega), k + 1, AvR, _, cvR, rfl, (show _ ≤ _ by omega), hF.to [1, 2, 7, 8] rfl, (hS.sub [0, 1] (by decide) (by first | rfl | simp) (by simp))⟩
    · first | (replace hc253 := of_decide_eq_false hc253) | (replace hc253 := of_decide_eq_true (bnot_f hc253)) | (subst hc253) | (replace hc253 := bnot_f hc253; subst hc253) | (replace hc253 := bnot_f hc253) | skip
      try (have hc253x := hc253; simp only [okS, okI, okW, okP] at hc253x)
      refine wp_exit ?_
      refine then_x ?_
      refine then_x ?_
      refine inb_x ?_
      refine then_n ?_
      refine c_seq ?_
      refine c_region ?_
      refine seq_yl hF (wn_none rfl) rfl rfl (yl_move hF rfl rfl) ?_
      clear hF; intro a hF
      refine seq_yl hF (wn_none rfl) rfl rfl (yl_assign hF rfl rfl) ?_
      clear hF; intro a hF
      refine wpList_nil ?_
      refine then_n ?_
      refine wp_ret ?_
      refine ret_t hF rfl rfl ?_
      rw [show F.take k = F from List.take_of_length_le (by omega)] at hS; exact ⟨_, rfl, _, rfl, (hS.sub [1] (by decide) (by first | rfl | simp) (by simp))⟩

end Go.Proofs.Ytlhcpeolkkadbaa

/- walks, printed by wip/gen -/
import Derived.Test.YtiifpgkdgnoafaaW2
import Derived.Test.YtiifpgkdgnoafaaP2
namespace Go.Proofs.Ytiifpgkdgnoafaa
open Go.RowKit
set_option linter.unusedVariables false
set_option linter.unusedSimpArgs false

theorem chg_any (x : E36) (w0 : World) :
    Fn Try.prog 31 #[.agg #[.int .i64 x.f0, .int .i64 x.f1, .int .i64 x.f2]] w0 (fun v w' => v = .int .i64 x.f2 ∧ Sat w0 w' []) := by
  refine c_enter (N := 5) (l := [_]) Try.func31 rfl rfl (fun a w hF hS => ?_)
  refine c_seq ?_
  refine c_region ?_
  refine seq_wp (wn_none rfl) (wp_box (cs := #[_, _, _]) hF hS rfl rfl rfl rfl rfl ?_)
  clear hF hS; intro a w g61 hF hS
  refine seq_yl hF (wn_none rfl) rfl rfl (yl_assign hF rfl rfl) ?_
  clear hF; intro a hF
  refine wpList_nil ?_
  refine then_n ?_
  refine c_seq ?_
  refine c_region ?_
  refine seq_yl hF (wn_none rfl) rfl rfl (yl_fieldAddr hF rfl rfl (fun w => by kernel_rfl : ∀ w, (Instr.fieldAt 36 (.pointer (some ⟨g61, 0, none⟩)) 2).run Try.prog w = .ok (.pointer (some ⟨g61, 2, none⟩)) w)) ?_
  clear hF; intro a hF
  refine seq_yl hF (wn_none rfl) rfl rfl (yl_load (fun _ h => h ▸ hS) hF rfl rfl 0 rfl ag3 rfl) ?_
  clear hF; intro a hF
  refine seq_yl hF (wn_none rfl) rfl rfl (yl_assign hF rfl rfl) ?_
  clear hF; intro a hF
  refine wpList_nil ?_
  refine then_n ?_
  refine wp_ret ?_
  refine ret_t hF rfl rfl ?_
  exact ⟨_, rfl, congrArg (Value.int .i64) (rfl), (hS.sub [] (by decide) (by first | rfl | simp) (by simp))⟩

theorem moreEx_any (b0 b1 b2 b3 : Int) (v : Value) (L : List E36) (w0 : World) (hv : Rd w0 3 v (L).length (cells enc36 (L))) (hmem : ∀ e ∈ L, okG e) (hL : L.length ≤ 4) (hs : (0 ≤ b0 ∧ b0 ≤ 1000000) ∧ (0 ≤ b1 ∧ b1 ≤ 1000000) ∧ (0 ≤ b2 ∧ b2 ≤ 1000000) ∧ (0 ≤ b3 ∧ b3 ≤ 1000000)) :
    Fn Try.prog 30 #[.agg #[.int .i64 b0, .int .i64 b1, .int .i64 b2, .int .i64 b3], v, .func (.func 17) #[] #[]] w0 (fun v w' => ∃ c0 c1 c2 c3, v = .agg #[.int .i64 c0, .int .i64 c1, .int .i64 c2, .int .i64 c3] ∧ [c0, c1, c2, c3] = moreF exF [b0, b1, b2, b3] L ∧ Sat w0 w' []) := by
  obtain ⟨Av, cv, rfl⟩ := Rd.form hv
  refine c_enter (N := 40) (l := [_, _, _]) Try.func30 rfl rfl (fun a w hF hS => ?_)
  replace hS := hS.addRo hv
  refine c_seq ?_
  refine c_region ?_
  refine seq_wp (wn_none rfl) (wp_box (cs := #[_, _, _, _]) hF hS rfl rfl rfl rfl rfl ?_)
  clear hF hS; intro a w g62 hF hS
  refine seq_wp (wn_none rfl) (wp_alloc (cs := #[_, _, _, _]) hF hS rfl rfl rfl zr49 rfl ?_)
  clear hF hS; intro a w g63 hF hS
  refine wpList_nil ?_
  refine then_n ?_
  refine c_seq ?_
  refine c_region ?_
  refine seq_yl hF (wn_none rfl) rfl rfl (yl_assign hF rfl rfl) ?_
  clear hF; intro a hF
  refine seq_yl hF (wn_none rfl) rfl rfl (yl_assign hF rfl rfl) ?_
  clear hF; intro a hF
  refine wpList_nil ?_
  refine then_n ?_
  refine c_seq ?_
  refine c_seq ?_
  refine c_region ?_
  refine seq_yl hF (wn_none rfl) rfl rfl (yl_move hF rfl rfl) ?_
  clear hF; intro a hF
  refine seq_yl hF (wn_none rfl) rfl rfl (yl_len hF rfl rfl (fun _ => run_lenRd sl26 (hS.rdRo 2 rfl))) ?_
  clear hF; intro a hF
  refine seq_yl hF (wn_none rfl) rfl rfl (yl_move hF rfl rfl) ?_
  clear hF; intro a hF
  refine wpList_nil ?_
  refine then_n ?_
  refine wp_block ?_
  refine c_loop (fun m a w => ∃ (k : Nat) (best most : Int), m = L.length - k ∧ (k ≤ L.length ∧ bestF exF [b0, b1, b2, b3] L k = (best, most) ∧ -1 ≤ best ∧ best < k) ∧ Fr 40 a [(2, .func (.func 17) #[] #[]), (3, .pointer (some ⟨g62, 0, none⟩)), (6, .pointer (some ⟨g63, 0, none⟩)), (7, .int .i64 (best)), (8, .int .i64 (most)), (12, .slice Av (L).length cv), (13, .int .i64 (((L).length : Nat) : Int)), (14, .int .i64 ((k : Nat) : Int))] ∧ Sat w0 w (.ro 3 (.slice Av (L).length cv) (L).length (cells enc36 (L)) :: .box g62 49 #[.int .i64 (b0), .int .i64 (b1), .int .i64 (b2), .int .i64 (b3)] :: .box g63 49 #[.int .i64 (0 : Int), .int .i64 (0 : Int), .int .i64 (0 : Int), .int .i64 (0 : Int)] :: [])) (L.length - 0) ?_ ?_
  · exact ⟨0, -1, 0, rfl, ⟨Nat.zero_le _, rfl, by omega, by omega⟩, hF.to [2, 3, 6, 7, 8, 12, 13, 14] rfl, (hS.sub [2, 1, 0] (by decide) (by first | rfl | simp) (by simp))⟩
  · clear hF hS; try clear hSS
    clear a w; rintro m a w ⟨k, best, most, rfl, hinv, hF, hS⟩
    obtain ⟨hk, hbm, hb1, hb2⟩ := hinv
    refine c_seq ?_
    refine c_region ?_
    refine seq_yl hF (wn_none rfl) rfl rfl (yl_bin hF rfl rfl rfl rfl (fun _ => run_lss)) ?_
    clear hF; intro a hF
    refine wpList_nil ?_
    refine then_n ?_
    refine c_seq ?_
    refine c_cond hF rfl (fun hc64 => ?_) (fun hc64 => ?_)
    · first | (replace hc64 := of_decide_eq_true hc64) | (replace hc64 := of_decide_eq_false (bnot_t hc64)) | (subst hc64) | (replace hc64 := bnot_t hc64; subst hc64) | (replace hc64 := bnot_t hc64) | skip
      refine wp_skip ?_
      refine then_n ?_
      refine c_seq ?_
      refine wp_block ?_
      refine c_seq ?_
      refine c_region ?_
      refine seq_yl hF (wn_none rfl) rfl rfl (yl_move hF rfl rfl) ?_
      clear hF; intro a hF
      have hlt_hx65 : k < (L).length := by first | omega | (simp; done) | (simp; omega)
      obtain ⟨ad66, rfl⟩ := rd_some (hS.rdRo 0 rfl) hlt_hx65
      obtain ⟨x65, hx65⟩ := get_some hlt_hx65
      have hb_x65 := hmem x65 (List.mem_of_getElem? hx65)
      refine seq_yl hF (wn_none rfl) rfl rfl (yl_indexAddr hF rfl rfl rfl (fun _ => run_idx' sl26 sz36 (hS.rdRo 0 rfl) hlt_hx65)) ?_
      clear hF; intro a hF
      refine seq_yl hF (wn_none rfl) rfl rfl (yl_loadEl (rs := [.int .i64 (x65.f0), .int .i64 (x65.f1), .int .i64 (x65.f2)]) hF rfl rfl ag36 sz36 rfl (fun _ h => rd_cells (enc := enc36) (by subst h; exact hS.rdRo 0 rfl) enc36_len hx65)) ?_
      clear hF; intro a hF
      refine seq_wp (wn_none rfl) (wp_alloc (cs := #[_, _, _]) hF hS rfl rfl rfl zr36 rfl ?_)
      clear hF hS; intro a w g67 hF hS
      refine seq_yl hF (wn_none rfl) rfl rfl (yl_assign hF rfl rfl) ?_
      clear hF; intro a hF
      refine seq_wp (wn_none rfl) (wp_store (cs' := #[_, _, _]) hF hS rfl rfl rfl rfl 0 rfl sz36 (by simp [Value.cells, Value.oneCell']) (by simp [Value.cells]) rfl ?_)
      clear hF hS; intro a w hF hS
      refine wpList_nil ?_
      refine then_n ?_
      refine c_seq ?_
      refine ha_startS hS [0, 2] 8 (by kernel_rfl) ?_; clear hS; intro w hS
      have hSS := hS.sub [0, 2] (by decide) rfl (by simp)
      refine ha_yl 0 hF rfl rfl rfl (by kernel_rfl) (by kernel_rfl) (by kernel_rfl) (by decide) (fun _ _ _ h => h) (wn_none rfl) (.inr hSS) (yl_move hF rfl rfl) ?_
      clear hF; intro a hF
      refine ha_yl 3 hF rfl rfl rfl (by kernel_rfl) (by kernel_rfl) (by kernel_rfl) (by decide) (fun _ _ _ h => h) (wn_none rfl) (.inr hSS) (yl_move hF rfl rfl) ?_
      clear hF; intro a hF
      rcases (by omega : ((k : Nat) : Int) = (0 : Int) ∨ ((k : Nat) : Int) = (1 : Int) ∨ ((k : Nat) : Int) = (2 : Int) ∨ ((k : Nat) : Int) = (3 : Int)) with hr | hr | hr | hr
      · skip
        replace hF := fr_seti (b' := 0) hF (by assumption)
        refine ha_yl 4 hF rfl rfl rfl (by kernel_rfl) (by kernel_rfl) (by kernel_rfl) (by decide) (fun _ _ _ h => h) (wn_none rfl) (.inr hSS) (yl_indexAddr hF rfl rfl rfl (fun w => by kernel_rfl : ∀ w, (Instr.indexAt 49 (.pointer (some ⟨g62, 0, none⟩)) (.int .i64 0)).run Try.prog w = .ok (.pointer (some ⟨g62, 0, none⟩)) w)) ?_
        clear hF; intro a hF
        refine ha_ld 1 hF rfl rfl rfl (by kernel_rfl) (by kernel_rfl) (by kernel_rfl) (by decide) (by kernel_rfl) (by kernel_rfl) (fun _ _ _ h => h) (wn_none rfl) hSS (yl_loadK (rs := [_, _, _]) (fun _ h => h) hF rfl rfl 0 rfl ag36 sz36 rfl rfl) ?_
        clear hF; intro a hF
        refine ha_ld 5 hF rfl rfl rfl (by kernel_rfl) (by kernel_rfl) (by kernel_rfl) (by decide) (by kernel_rfl) (by kernel_rfl) (fun _ _ _ h => h) (wn_none rfl) hSS (yl_load (fun _ h => h) hF rfl rfl 1 rfl ag3 rfl) ?_
        clear hF; intro a hF
        have hh68 := exF_in hb_x65
        refine ha_one 2 (by kernel_rfl) rfl (wn_none rfl) (wp_callV (vs := [_]) hF rfl rfl rfl rfl rfl cf17 (excess_any x65 _ (by have h9 := hb_x65; unfold okG at h9; exact ⟨by omega, by omega⟩)) ?_)
        clear hF; rintro _ w ⟨rfl, hS1⟩ a hF
        replace hS := hS.callB hS1 rfl; clear hS1
        replace hSS := hS.sub [0, 2] (by decide) rfl (by simp)
        refine ⟨.inr hSS, ?_⟩
        refine ha_yl 6 hF rfl rfl rfl (by kernel_rfl) (by kernel_rfl) (by kernel_rfl) (by decide) (fun _ _ _ h => h) (wn_none rfl) (.inr hSS) (yl_bin hF rfl rfl rfl rfl (fun _ => run_sub (by refine ⟨?_, ?_⟩ <;> omega))) ?_
        clear hF; intro a hF
        refine ha_yl 7 hF rfl rfl rfl (by kernel_rfl) (by kernel_rfl) (by kernel_rfl) (by decide) (fun _ _ _ h => h) (wn_none rfl) (.inr hSS) (yl_assign hF rfl rfl) ?_
        clear hF; intro a hF
        refine ha_done (by kernel_rfl) ?_ _
        refine then_n ?_
        refine c_seq ?_
        refine c_region ?_
        refine seq_yl hF (wn_none rfl) rfl rfl (yl_move hF rfl rfl) ?_
        clear hF; intro a hF
        refine seq_yl hF (wn_none rfl) rfl rfl (yl_move hF rfl rfl) ?_
        clear hF; intro a hF
        refine seq_yl hF (wn_none rfl) rfl rfl (yl_bin hF rfl rfl rfl rfl (fun _ => run_gtr)) ?_
        clear hF; intro a hF
        refine wpList_nil ?_
        refine then_n ?_
        refine c_cond hF rfl (fun hc69 => ?_) (fun hc69 => ?_)
        · first | (replace hc69 := of_decide_eq_true hc69) | (replace hc69 := of_decide_eq_false (bnot_t hc69)) | (subst hc69) | (replace hc69 := bnot_t hc69; subst hc69) | (replace hc69 := bnot_t hc69) | skip
          refine c_region ?_
          refine seq_yl hF (wn_none rfl) rfl rfl (yl_move hF rfl rfl) ?_
          clear hF; intro a hF
          refine seq_yl hF (wn_none rfl) rfl rfl (yl_move hF rfl rfl) ?_
          clear hF; intro a hF
          refine seq_yl hF (wn_none rfl) rfl rfl (yl_assign hF rfl rfl) ?_
          clear hF; intro a hF
          refine seq_yl hF (wn_none rfl) rfl rfl (yl_assign hF rfl rfl) ?_
          clear hF; intro a hF
          refine wpList_nil ?_
          refine inb_n ?_
          refine then_n ?_
          refine c_region ?_
          refine seq_yl hF (wn_none rfl) rfl rfl (yl_bin hF rfl rfl rfl rfl (fun _ => run_inc (by omega))) ?_
          clear hF; intro a hF
          refine seq_yl hF (wn_none rfl) rfl rfl (yl_move hF rfl rfl) ?_
          clear hF; intro a hF
          refine wpList_nil ?_
          refine then_n ?_
          exact ⟨_, (by omega), k + 1, ((k : Nat) : Int), ((((exF x65)) - (b0))), rfl, ⟨by omega, best_yes (c := b0) hbm hx65 (by rw [show k = 0 by omega]; rfl) (by omega), by omega, by omega⟩, hF.to [2, 3, 6, 7, 8, 12, 13, 14] rfl, (hS.sub [1, 2, 3] (by decide) (by first | rfl | simp) (by simp))⟩
        · first | (replace hc69 := of_decide_eq_false hc69) | (replace hc69 := of_decide_eq_true (bnot_f hc69)) | (subst hc69) | (replace hc69 := bnot_f hc69; subst hc69) | (replace hc69 := bnot_f hc69) | skip
          refine wp_skip ?_
          refine inb_n ?_
          refine then_n ?_
          refine c_region ?_
          refine seq_yl hF (wn_none rfl) rfl rfl (yl_bin hF rfl rfl rfl rfl (fun _ => run_inc (by omega))) ?_
          clear hF; intro a hF
          refine seq_yl hF (wn_none rfl) rfl rfl (yl_move hF rfl rfl) ?_
          clear hF; intro a hF
          refine wpList_nil ?_
          refine then_n ?_
          exact ⟨_, (by omega), k + 1, (best), (most), rfl, ⟨by omega, best_no (c := b0) hbm hx65 (by rw [show k = 0 by omega]; rfl) (by omega), by omega, by omega⟩, hF.to [2, 3, 6, 7, 8, 12, 13, 14] rfl, (hS.sub [1, 2, 3] (by decide) (by first | rfl | simp) (by simp))⟩
      · skip
        replace hF := fr_seti (b' := 1) hF (by assumption)
        refine ha_yl 4 hF rfl rfl rfl (by kernel_rfl) (by kernel_rfl) (by kernel_rfl) (by decide) (fun _ _ _ h => h) (wn_none rfl) (.inr hSS) (yl_indexAddr hF rfl rfl rfl (fun w => by kernel_rfl : ∀ w, (Instr.indexAt 49 (.pointer (some ⟨g62, 0, none⟩)) (.int .i64 1)).run Try.prog w = .ok (.pointer (some ⟨g62, 1, none⟩)) w)) ?_
        clear hF; intro a hF
        refine ha_ld 1 hF rfl rfl rfl (by kernel_rfl) (by kernel_rfl) (by kernel_rfl) (by decide) (by kernel_rfl) (by kernel_rfl) (fun _ _ _ h => h) (wn_none rfl) hSS (yl_loadK (rs := [_, _, _]) (fun _ h => h) hF rfl rfl 0 rfl ag36 sz36 rfl rfl) ?_
        clear hF; intro a hF
        refine ha_ld 5 hF rfl rfl rfl (by kernel_rfl) (by kernel_rfl) (by kernel_rfl) (by decide) (by kernel_rfl) (by kernel_rfl) (fun _ _ _ h => h) (wn_none rfl) hSS (yl_load (fun _ h => h) hF rfl rfl 1 rfl ag3 rfl) ?_
        clear hF; intro a hF
        have hh70 := exF_in hb_x65
        refine ha_one 2 (by kernel_rfl) rfl (wn_none rfl) (wp_callV (vs := [_]) hF rfl rfl rfl rfl rfl cf17 (excess_any x65 _ (by have h9 := hb_x65; unfold okG at h9; exact ⟨by omega, by omega⟩)) ?_)
        clear hF; rintro _ w ⟨rfl, hS1⟩ a hF
        replace hS := hS.callB hS1 rfl; clear hS1
        replace hSS := hS.sub [0, 2] (by decide) rfl (by simp)
        refine ⟨.inr hSS, ?_⟩
        refine ha_yl 6 hF rfl rfl rfl (by kernel_rfl) (by kernel_rfl) (by kernel_rfl) (by decide) (fun _ _ _ h => h) (wn_none rfl) (.inr hSS) (yl_bin hF rfl rfl rfl rfl (fun _ => run_sub (by refine ⟨?_, ?_⟩ <;> omega))) ?_
        clear hF; intro a hF
        refine ha_yl 7 hF rfl rfl rfl (by kernel_rfl) (by kernel_rfl) (by kernel_rfl) (by decide) (fun _ _ _ h => h) (wn_none rfl) (.inr hSS) (yl_assign hF rfl rfl) ?_
        clear hF; intro a hF
        refine ha_done (by kernel_rfl) ?_ _
        refine then_n ?_
        refine c_seq ?_
        refine c_region ?_
        refine seq_yl hF (wn_none rfl) rfl rfl (yl_move hF rfl rfl) ?_
        clear hF; intro a hF
        refine seq_yl hF (wn_none rfl) rfl rfl (yl_move hF rfl rfl) ?_
        clear hF; intro a hF
        refine seq_yl hF (wn_none rfl) rfl rfl (yl_bin hF rfl rfl rfl rfl (fun _ => run_gtr)) ?_
        clear hF; intro a hF
        refine wpList_nil ?_
        refine then_n ?_
        refine c_cond hF rfl (fun hc71 => ?_) (fun hc71 => ?_)
        · first | (replace hc71 := of_decide_eq_true hc71) | (replace hc71 := of_decide_eq_false (bnot_t hc71)) | (subst hc71) | (replace hc71 := bnot_t hc71; subst hc71) | (replace hc71 := bnot_t hc71) | skip
          refine c_region ?_
          refine seq_yl hF (wn_none rfl) rfl rfl (yl_move hF rfl rfl) ?_
          clear hF; intro a hF
          refine seq_yl hF (wn_none rfl) rfl rfl (yl_move hF rfl rfl) ?_
          clear hF; intro a hF
          refine seq_yl hF (wn_none rfl) rfl rfl (yl_assign hF rfl rfl) ?_
          clear hF; intro a hF
          refine seq_yl hF (wn_none rfl) rfl rfl (yl_assign hF rfl rfl) ?_
          clear hF; intro a hF
          refine wpList_nil ?_
          refine inb_n ?_
          refine then_n ?_
          refine c_region ?_
          refine seq_yl hF (wn_none rfl) rfl rfl (yl_bin hF rfl rfl rfl rfl (fun _ => run_inc (by omega))) ?_
          clear hF; intro a hF
          refine seq_yl hF (wn_none rfl) rfl rfl (yl_move hF rfl rfl) ?_
          clear hF; intro a hF
          refine wpList_nil ?_
          refine then_n ?_
          exact ⟨_, (by omega), k + 1, ((k : Nat) : Int), ((((exF x65)) - (b1))), rfl, ⟨by omega, best_yes (c := b1) hbm hx65 (by rw [show k = 1 by omega]; rfl) (by omega), by omega, by omega⟩, hF.to [2, 3, 6, 7, 8, 12, 13, 14] rfl, (hS.sub [1, 2, 3] (by decide) (by first | rfl | simp) (by simp))⟩
        · first | (replace hc71 := of_decide_eq_false hc71) | (replace hc71 := of_decide_eq_true (bnot_f hc71)) | (subst hc71) | (replace hc71 := bnot_f hc71; subst hc71) | (replace hc71 := bnot_f hc71) | skip
          refine wp_skip ?_
          refine inb_n ?_
          refine then_n ?_
          refine c_region ?_
          refine seq_yl hF (wn_none rfl) rfl rfl (yl_bin hF rfl rfl rfl rfl (fun _ => run_inc (by omega))) ?_
          clear hF; intro a hF
          refine seq_yl hF (wn_none rfl) rfl rfl (yl_move hF rfl rfl) ?_
          clear hF; intro a hF
          refine wpList_nil ?_
          refine then_n ?_
          exact ⟨_, (by omega), k + 1, (best), (most), rfl, ⟨by omega, best_no (c := b1) hbm hx65 (by rw [show k = 1 by omega]; rfl) (by omega), by omega, by omega⟩, hF.to [2, 3, 6, 7, 8, 12, 13, 14] rfl, (hS.sub [1, 2, 3] (by decide) (by first | rfl | simp) (by simp))⟩
      · skip
        replace hF := fr_seti (b' := 2) hF (by assumption)
        refine ha_yl 4 hF rfl rfl rfl (by kernel_rfl) (by kernel_rfl) (by kernel_rfl) (by decide) (fun _ _ _ h => h) (wn_none rfl) (.inr hSS) (yl_indexAddr hF rfl rfl rfl (fun w => by kernel_rfl : ∀ w, (Instr.indexAt 49 (.pointer (some ⟨g62, 0, none⟩)) (.int .i64 2)).run Try.prog w = .ok (.pointer (some ⟨g62, 2, none⟩)) w)) ?_
        clear hF; intro a hF
        refine ha_ld 1 hF rfl rfl rfl (by kernel_rfl) (by kernel_rfl) (by kernel_rfl) (by decide) (by kernel_rfl) (by kernel_rfl) (fun _ _ _ h => h) (wn_none rfl) hSS (yl_loadK (rs := [_, _, _]) (fun _ h => h) hF rfl rfl 0 rfl ag36 sz36 rfl rfl) ?_
        clear hF; intro a hF
        refine ha_ld 5 hF rfl rfl rfl (by kernel_rfl) (by kernel_rfl) (by kernel_rfl) (by decide) (by kernel_rfl) (by kernel_rfl) (fun _ _ _ h => h) (wn_none rfl) hSS (yl_load (fun _ h => h) hF rfl rfl 1 rfl ag3 rfl) ?_
        clear hF; intro a hF
        have hh72 := exF_in hb_x65
        refine ha_one 2 (by kernel_rfl) rfl (wn_none rfl) (wp_callV (vs := [_]) hF rfl rfl rfl rfl rfl cf17 (excess_any x65 _ (by have h9 := hb_x65; unfold okG at h9; exact ⟨by omega, by omega⟩)) ?_)
        clear hF; rintro _ w ⟨rfl, hS1⟩ a hF
        replace hS := hS.callB hS1 rfl; clear hS1
        replace hSS := hS.sub [0, 2] (by decide) rfl (by simp)
        refine ⟨.inr hSS, ?_⟩
        refine ha_yl 6 hF rfl rfl rfl (by kernel_rfl) (by kernel_rfl) (by kernel_rfl) (by decide) (fun _ _ _ h => h) (wn_none rfl) (.inr hSS) (yl_bin hF rfl rfl rfl rfl (fun _ => run_sub (by refine ⟨?_, ?_⟩ <;> omega))) ?_
        clear hF; intro a hF
        refine ha_yl 7 hF rfl rfl rfl (by kernel_rfl) (by kernel_rfl) (by kernel_rfl) (by decide) (fun _ _ _ h => h) (wn_none rfl) (.inr hSS) (yl_assign hF rfl rfl) ?_
        clear hF; intro a hF
        refine ha_done (by kernel_rfl) ?_ _
        refine then_n ?_
        refine c_seq ?_
        refine c_region ?_
        refine seq_yl hF (wn_none rfl) rfl rfl (yl_move hF rfl rfl) ?_
        clear hF; intro a hF
        refine seq_yl hF (wn_none rfl) rfl rfl (yl_move hF rfl rfl) ?_
        clear hF; intro a hF
        refine seq_yl hF (wn_none rfl) rfl rfl (yl_bin hF rfl rfl rfl rfl (fun _ => run_gtr)) ?_
        clear hF; intro a hF
        refine wpList_nil ?_
        refine then_n ?_
        refine c_cond hF rfl (fun hc73 => ?_) (fun hc73 => ?_)
        · first | (replace hc73 := of_decide_eq_true hc73) | (replace hc73 := of_decide_eq_false (bnot_t hc73)) | (subst hc73) | (replace hc73 := bnot_t hc73; subst hc73) | (replace hc73 := bnot_t hc73) | skip
          refine c_region ?_
          refine seq_yl hF (wn_none rfl) rfl rfl (yl_move hF rfl rfl) ?_
          clear hF; intro a hF
          refine seq_yl hF (wn_none rfl) rfl rfl (yl_move hF rfl rfl) ?_
          clear hF; intro a hF
          refine seq_yl hF (wn_none rfl) rfl rfl (yl_assign hF rfl rfl) ?_
          clear hF; intro a hF
          refine seq_yl hF (wn_none rfl) rfl rfl (yl_assign hF rfl rfl) ?_
          clear hF; intro a hF
          refine wpList_nil ?_
          refine inb_n ?_
          refine then_n ?_
          refine c_region ?_
          refine seq_yl hF (wn_none rfl) rfl rfl (yl_bin hF rfl rfl rfl rfl (fun _ => run_inc (by omega))) ?_
          clear hF; intro a hF
          refine seq_yl hF (wn_none rfl) rfl rfl (yl_move hF rfl rfl) ?_
          clear hF; intro a hF
          refine wpList_nil ?_
          refine then_n ?_
          exact ⟨_, (by omega), k + 1, ((k : Nat) : Int), ((((exF x65)) - (b2))), rfl, ⟨by omega, best_yes (c := b2) hbm hx65 (by rw [show k = 2 by omega]; rfl) (by omega), by omega, by omega⟩, hF.to [2, 3, 6, 7, 8, 12, 13, 14] rfl, (hS.sub [1, 2, 3] (by decide) (by first | rfl | simp) (by simp))⟩
        · first | (replace hc73 := of_decide_eq_false hc73) | (replace hc73 := of_decide_eq_true (bnot_f hc73)) | (subst hc73) | (replace hc73 := bnot_f hc73; subst hc73) | (replace hc73 := bnot_f hc73) | skip
          refine wp_skip ?_
          refine inb_n ?_
          refine then_n ?_
          refine c_region ?_
          refine seq_yl hF (wn_none rfl) rfl rfl (yl_bin hF rfl rfl rfl rfl (fun _ => run_inc (by omega))) ?_
          clear hF; intro a hF
          refine seq_yl hF (wn_none rfl) rfl rfl (yl_move hF rfl rfl) ?_
          clear hF; intro a hF
          refine wpList_nil ?_
          refine then_n ?_
          exact ⟨_, (by omega), k + 1, (best), (most), rfl, ⟨by omega, best_no (c := b2) hbm hx65 (by rw [show k = 2 by omega]; rfl) (by omega), by omega, by omega⟩, hF.to [2, 3, 6, 7, 8, 12, 13, 14] rfl, (hS.sub [1, 2, 3] (by decide) (by first | rfl | simp) (by simp))⟩
      · skip
        replace hF := fr_seti (b' := 3) hF (by assumption)
        refine ha_yl 4 hF rfl rfl rfl (by kernel_rfl) (by kernel_rfl) (by kernel_rfl) (by decide) (fun _ _ _ h => h) (wn_none rfl) (.inr hSS) (yl_indexAddr hF rfl rfl rfl (fun w => by kernel_rfl : ∀ w, (Instr.indexAt 49 (.pointer (some ⟨g62, 0, none⟩)) (.int .i64 3)).run Try.prog w = .ok (.pointer (some ⟨g62, 3, none⟩)) w)) ?_
        clear hF; intro a hF
        refine ha_ld 1 hF rfl rfl rfl (by kernel_rfl) (by kernel_rfl) (by kernel_rfl) (by decide) (by kernel_rfl) (by kernel_rfl) (fun _ _ _ h => h) (wn_none rfl) hSS (yl_loadK (rs := [_, _, _]) (fun _ h => h) hF rfl rfl 0 rfl ag36 sz36 rfl rfl) ?_
        clear hF; intro a hF
        refine ha_ld 5 hF rfl rfl rfl (by kernel_rfl) (by kernel_rfl) (by kernel_rfl) (by decide) (by kernel_rfl) (by kernel_rfl) (fun _ _ _ h => h) (wn_none rfl) hSS (yl_load (fun _ h => h) hF rfl rfl 1 rfl ag3 rfl) ?_
        clear hF; intro a hF
        have hh74 := exF_in hb_x65
        refine ha_one 2 (by kernel_rfl) rfl (wn_none rfl) (wp_callV (vs := [_]) hF rfl rfl rfl rfl rfl cf17 (excess_any x65 _ (by have h9 := hb_x65; unfold okG at h9; exact ⟨by omega, by omega⟩)) ?_)
        clear hF; rintro _ w ⟨rfl, hS1⟩ a hF
        replace hS := hS.callB hS1 rfl; clear hS1
        replace hSS := hS.sub [0, 2] (by decide) rfl (by simp)
        refine ⟨.inr hSS, ?_⟩
        refine ha_yl 6 hF rfl rfl rfl (by kernel_rfl) (by kernel_rfl) (by kernel_rfl) (by decide) (fun _ _ _ h => h) (wn_none rfl) (.inr hSS) (yl_bin hF rfl rfl rfl rfl (fun _ => run_sub (by refine ⟨?_, ?_⟩ <;> omega))) ?_
        clear hF; intro a hF
        refine ha_yl 7 hF rfl rfl rfl (by kernel_rfl) (by kernel_rfl) (by kernel_rfl) (by decide) (fun _ _ _ h => h) (wn_none rfl) (.inr hSS) (yl_assign hF rfl rfl) ?_
        clear hF; intro a hF
        refine ha_done (by kernel_rfl) ?_ _
        refine then_n ?_
        refine c_seq ?_
        refine c_region ?_
        refine seq_yl hF (wn_none rfl) rfl rfl (yl_move hF rfl rfl) ?_
        clear hF; intro a hF
        refine seq_yl hF (wn_none rfl) rfl rfl (yl_move hF rfl rfl) ?_
        clear hF; intro a hF
        refine seq_yl hF (wn_none rfl) rfl rfl (yl_bin hF rfl rfl rfl rfl (fun _ => run_gtr)) ?_
        clear hF; intro a hF
        refine wpList_nil ?_
        refine then_n ?_
        refine c_cond hF rfl (fun hc75 => ?_) (fun hc75 => ?_)
        · first | (replace hc75 := of_decide_eq_true hc75) | (replace hc75 := of_decide_eq_false (bnot_t hc75)) | (subst hc75) | (replace hc75 := bnot_t hc75; subst hc75) | (replace hc75 := bnot_t hc75) | skip
          refine c_region ?_
          refine seq_yl hF (wn_none rfl) rfl rfl (yl_move hF rfl rfl) ?_
          clear hF; intro a hF
          refine seq_yl hF (wn_none rfl) rfl rfl (yl_move hF rfl rfl) ?_
          clear hF; intro a hF
          refine seq_yl hF (wn_none rfl) rfl rfl (yl_assign hF rfl rfl) ?_
          clear hF; intro a hF
          refine seq_yl hF (wn_none rfl) rfl rfl (yl_assign hF rfl rfl) ?_
          clear hF; intro a hF
          refine wpList_nil ?_
          refine inb_n ?_
          refine then_n ?_
          refine c_region ?_
          refine seq_yl hF (wn_none rfl) rfl rfl (yl_bin hF rfl rfl rfl rfl (fun _ => run_inc (by omega))) ?_
          clear hF; intro a hF
          refine seq_yl hF (wn_none rfl) rfl rfl (yl_move hF rfl rfl) ?_
          clear hF; intro a hF
          refine wpList_nil ?_
          refine then_n ?_
          exact ⟨_, (by omega), k + 1, ((k : Nat) : Int), ((((exF x65)) - (b3))), rfl, ⟨by omega, best_yes (c := b3) hbm hx65 (by rw [show k = 3 by omega]; rfl) (by omega), by omega, by omega⟩, hF.to [2, 3, 6, 7, 8, 12, 13, 14] rfl, (hS.sub [1, 2, 3] (by decide) (by first | rfl | simp) (by simp))⟩
        · first | (replace hc75 := of_decide_eq_false hc75) | (replace hc75 := of_decide_eq_true (bnot_f hc75)) | (subst hc75) | (replace hc75 := bnot_f hc75; subst hc75) | (replace hc75 := bnot_f hc75) | skip
          refine wp_skip ?_
          refine inb_n ?_
          refine then_n ?_
          refine c_region ?_
          refine seq_yl hF (wn_none rfl) rfl rfl (yl_bin hF rfl rfl rfl rfl (fun _ => run_inc (by omega))) ?_
          clear hF; intro a hF
          refine seq_yl hF (wn_none rfl) rfl rfl (yl_move hF rfl rfl) ?_
          clear hF; intro a hF
          refine wpList_nil ?_
          refine then_n ?_
          exact ⟨_, (by omega), k + 1, (best), (most), rfl, ⟨by omega, best_no (c := b3) hbm hx65 (by rw [show k = 3 by omega]; rfl) (by omega), by omega, by omega⟩, hF.to [2, 3, 6, 7, 8, 12, 13, 14] rfl, (hS.sub [1, 2, 3] (by decide) (by first | rfl | simp) (by simp))⟩
    · first | (replace hc64 := of_decide_eq_false hc64) | (replace hc64 := of_decide_eq_true (bnot_f hc64)) | (subst hc64) | (replace hc64 := bnot_f hc64; subst hc64) | (replace hc64 := bnot_f hc64) | skip
      refine wp_exit ?_
      refine then_x ?_
      refine then_x ?_
      refine inb_x ?_
      refine then_n ?_
      refine c_seq ?_
      refine c_seq ?_
      refine c_region ?_
      refine seq_yl hF (wn_none rfl) rfl rfl (yl_move hF rfl rfl) ?_
      clear hF; intro a hF
      refine seq_yl hF (wn_none rfl) rfl rfl (yl_bin hF rfl rfl rfl rfl (fun _ => run_geq)) ?_
      clear hF; intro a hF
      refine wpList_nil ?_
      refine then_n ?_
      refine c_cond hF rfl (fun hc76 => ?_) (fun hc76 => ?_)
      · first | (replace hc76 := of_decide_eq_true hc76) | (replace hc76 := of_decide_eq_false (bnot_t hc76)) | (subst hc76) | (replace hc76 := bnot_t hc76; subst hc76) | (replace hc76 := bnot_t hc76) | skip
        refine c_region ?_
        refine seq_yl hF (wn_none rfl) rfl rfl (yl_move hF rfl rfl) ?_
        clear hF; intro a hF
        rcases (by omega : best = (0 : Int) ∨ best = (1 : Int) ∨ best = (2 : Int) ∨ best = (3 : Int)) with hr | hr | hr | hr
        · skip
          replace hF := fr_seti (b' := 0) hF (by assumption)
          refine seq_yl hF (wn_none rfl) rfl rfl (yl_indexAddr hF rfl rfl rfl (fun w => by kernel_rfl : ∀ w, (Instr.indexAt 49 (.pointer (some ⟨g62, 0, none⟩)) (.int .i64 0)).run Try.prog w = .ok (.pointer (some ⟨g62, 0, none⟩)) w)) ?_
          clear hF; intro a hF
          refine seq_yl hF (wn_none rfl) rfl rfl (yl_load (fun _ h => h ▸ hS) hF rfl rfl 1 rfl ag3 rfl) ?_
          clear hF; intro a hF
          refine seq_yl hF (wn_none rfl) rfl rfl (yl_bin hF rfl rfl rfl rfl (fun _ => run_add (by refine ⟨?_, ?_⟩ <;> omega))) ?_
          clear hF; intro a hF
          refine seq_yl hF (wn_none rfl) rfl rfl (yl_indexAddr hF rfl rfl rfl (fun w => by kernel_rfl : ∀ w, (Instr.indexAt 49 (.pointer (some ⟨g62, 0, none⟩)) (.int .i64 0)).run Try.prog w = .ok (.pointer (some ⟨g62, 0, none⟩)) w)) ?_
          clear hF; intro a hF
          refine seq_wp (wn_none rfl) (wp_store (cs' := #[_, _, _, _]) hF hS rfl rfl rfl rfl 1 rfl sz3 (by simp [Value.cells, Value.oneCell']) (by simp [Value.cells]) rfl ?_)
          clear hF hS; intro a w hF hS
          refine wpList_nil ?_
          refine then_n ?_
          refine c_seq ?_
          refine c_region ?_
          refine seq_yl hF (wn_none rfl) rfl rfl (yl_loadK (rs := [_, _, _, _]) (fun _ h => h ▸ hS) hF rfl rfl 1 rfl ag49 sz49 rfl rfl) ?_
          clear hF; intro a hF
          refine seq_wp (wn_none rfl) (wp_store (cs' := #[_, _, _, _]) hF hS rfl rfl rfl rfl 2 rfl sz49 (by simp [Value.cells, Value.oneCell']) (by simp [Value.cells]) rfl ?_)
          clear hF hS; intro a w hF hS
          refine wpList_nil ?_
          refine then_n ?_
          refine wp_ret ?_
          refine ret_c hF rfl (resC hS rfl 2 rfl ag49 sz49) ?_
          exact ⟨_, rfl, _, _, _, _, rfl, more_yes (j := 0) (c := b0) hbm (by omega) (by omega) rfl, (hS.sub [] (by decide) (by first | rfl | simp) (by simp))⟩
        · skip
          replace hF := fr_seti (b' := 1) hF (by assumption)
          refine seq_yl hF (wn_none rfl) rfl rfl (yl_indexAddr hF rfl rfl rfl (fun w => by kernel_rfl : ∀ w, (Instr.indexAt 49 (.pointer (some ⟨g62, 0, none⟩)) (.int .i64 1)).run Try.prog w = .ok (.pointer (some ⟨g62, 1, none⟩)) w)) ?_
          clear hF; intro a hF
          refine seq_yl hF (wn_none rfl) rfl rfl (yl_load (fun _ h => h ▸ hS) hF rfl rfl 1 rfl ag3 rfl) ?_
          clear hF; intro a hF
          refine seq_yl hF (wn_none rfl) rfl rfl (yl_bin hF rfl rfl rfl rfl (fun _ => run_add (by refine ⟨?_, ?_⟩ <;> omega))) ?_
          clear hF; intro a hF
          refine seq_yl hF (wn_none rfl) rfl rfl (yl_indexAddr hF rfl rfl rfl (fun w => by kernel_rfl : ∀ w, (Instr.indexAt 49 (.pointer (some ⟨g62, 0, none⟩)) (.int .i64 1)).run Try.prog w = .ok (.pointer (some ⟨g62, 1, none⟩)) w)) ?_
          clear hF; intro a hF
          refine seq_wp (wn_none rfl) (wp_store (cs' := #[_, _, _, _]) hF hS rfl rfl rfl rfl 1 rfl sz3 (by simp [Value.cells, Value.oneCell']) (by simp [Value.cells]) rfl ?_)
          clear hF hS; intro a w hF hS
          refine wpList_nil ?_
          refine then_n ?_
          refine c_seq ?_
          refine c_region ?_
          refine seq_yl hF (wn_none rfl) rfl rfl (yl_loadK (rs := [_, _, _, _]) (fun _ h => h ▸ hS) hF rfl rfl 1 rfl ag49 sz49 rfl rfl) ?_
          clear hF; intro a hF
          refine seq_wp (wn_none rfl) (wp_store (cs' := #[_, _, _, _]) hF hS rfl rfl rfl rfl 2 rfl sz49 (by simp [Value.cells, Value.oneCell']) (by simp [Value.cells]) rfl ?_)
          clear hF hS; intro a w hF hS
          refine wpList_nil ?_
          refine then_n ?_
          refine wp_ret ?_
          refine ret_c hF rfl (resC hS rfl 2 rfl ag49 sz49) ?_
          exact ⟨_, rfl, _, _, _, _, rfl, more_yes (j := 1) (c := b1) hbm (by omega) (by omega) rfl, (hS.sub [] (by decide) (by first | rfl | simp) (by simp))⟩
        · skip
          replace hF := fr_seti (b' := 2) hF (by assumption)
          refine seq_yl hF (wn_none rfl) rfl rfl (yl_indexAddr hF rfl rfl rfl (fun w => by kernel_rfl : ∀ w, (Instr.indexAt 49 (.pointer (some ⟨g62, 0, none⟩)) (.int .i64 2)).run Try.prog w = .ok (.pointer (some ⟨g62, 2, none⟩)) w)) ?_
          clear hF; intro a hF
          refine seq_yl hF (wn_none rfl) rfl rfl (yl_load (fun _ h => h ▸ hS) hF rfl rfl 1 rfl ag3 rfl) ?_
          clear hF; intro a hF
          refine seq_yl hF (wn_none rfl) rfl rfl (yl_bin hF rfl rfl rfl rfl (fun _ => run_add (by refine ⟨?_, ?_⟩ <;> omega))) ?_
          clear hF; intro a hF
          refine seq_yl hF (wn_none rfl) rfl rfl (yl_indexAddr hF rfl rfl rfl (fun w => by kernel_rfl : ∀ w, (Instr.indexAt 49 (.pointer (some ⟨g62, 0, none⟩)) (.int .i64 2)).run Try.prog w = .ok (.pointer (some ⟨g62, 2, none⟩)) w)) ?_
          clear hF; intro a hF
          refine seq_wp (wn_none rfl) (wp_store (cs' := #[_, _, _, _]) hF hS rfl rfl rfl rfl 1 rfl sz3 (by simp [Value.cells, Value.oneCell']) (by simp [Value.cells]) rfl ?_)
          clear hF hS; intro a w hF hS
          refine wpList_nil ?_
          refine then_n ?_
          refine c_seq ?_
          refine c_region ?_
          refine seq_yl hF (wn_none rfl) rfl rfl (yl_loadK (rs := [_, _, _, _]) (fun _ h => h ▸ hS) hF rfl rfl 1 rfl ag49 sz49 rfl rfl) ?_
          clear hF; intro a hF
          refine seq_wp (wn_none rfl) (wp_store (cs' := #[_, _, _, _]) hF hS rfl rfl rfl rfl 2 rfl sz49 (by simp [Value.cells, Value.oneCell']) (by simp [Value.cells]) rfl ?_)
          clear hF hS; intro a w hF hS
          refine wpList_nil ?_
          refine then_n ?_
          refine wp_ret ?_
          refine ret_c hF rfl (resC hS rfl 2 rfl ag49 sz49) ?_
          exact ⟨_, rfl, _, _, _, _, rfl, more_yes (j := 2) (c := b2) hbm (by omega) (by omega) rfl, (hS.sub [] (by decide) (by first | rfl | simp) (by simp))⟩
        · skip
          replace hF := fr_seti (b' := 3) hF (by assumption)
          refine seq_yl hF (wn_none rfl) rfl rfl (yl_indexAddr hF rfl rfl rfl (fun w => by kernel_rfl : ∀ w, (Instr.indexAt 49 (.pointer (some ⟨g62, 0, none⟩)) (.int .i64 3)).run Try.prog w = .ok (.pointer (some ⟨g62, 3, none⟩)) w)) ?_
          clear hF; intro a hF
          refine seq_yl hF (wn_none rfl) rfl rfl (yl_load (fun _ h => h ▸ hS) hF rfl rfl 1 rfl ag3 rfl) ?_
          clear hF; intro a hF
          refine seq_yl hF (wn_none rfl) rfl rfl (yl_bin hF rfl rfl rfl rfl (fun _ => run_add (by refine ⟨?_, ?_⟩ <;> omega))) ?_
          clear hF; intro a hF
          refine seq_yl hF (wn_none rfl) rfl rfl (yl_indexAddr hF rfl rfl rfl (fun w => by kernel_rfl : ∀ w, (Instr.indexAt 49 (.pointer (some ⟨g62, 0, none⟩)) (.int .i64 3)).run Try.prog w = .ok (.pointer (some ⟨g62, 3, none⟩)) w)) ?_
          clear hF; intro a hF
          refine seq_wp (wn_none rfl) (wp_store (cs' := #[_, _, _, _]) hF hS rfl rfl rfl rfl 1 rfl sz3 (by simp [Value.cells, Value.oneCell']) (by simp [Value.cells]) rfl ?_)
          clear hF hS; intro a w hF hS
          refine wpList_nil ?_
          refine then_n ?_
          refine c_seq ?_
          refine c_region ?_
          refine seq_yl hF (wn_none rfl) rfl rfl (yl_loadK (rs := [_, _, _, _]) (fun _ h => h ▸ hS) hF rfl rfl 1 rfl ag49 sz49 rfl rfl) ?_
          clear hF; intro a hF
          refine seq_wp (wn_none rfl) (wp_store (cs' := #[_, _, _, _]) hF hS rfl rfl rfl rfl 2 rfl sz49 (by simp [Value.cells, Value.oneCell']) (by simp [Value.cells]) rfl ?_)
          clear hF hS; intro a w hF hS
          refine wpList_nil ?_
          refine then_n ?_
          refine wp_ret ?_
          refine ret_c hF rfl (resC hS rfl 2 rfl ag49 sz49) ?_
          exact ⟨_, rfl, _, _, _, _, rfl, more_yes (j := 3) (c := b3) hbm (by omega) (by omega) rfl, (hS.sub [] (by decide) (by first | rfl | simp) (by simp))⟩
      · first | (replace hc76 := of_decide_eq_false hc76) | (replace hc76 := of_decide_eq_true (bnot_f hc76)) | (subst hc76) | (replace hc76 := bnot_f hc76; subst hc76) | (replace hc76 := bnot_f hc76) | skip
        refine wp_skip ?_
        refine then_n ?_
        refine c_seq ?_
        refine c_region ?_
        refine seq_yl hF (wn_none rfl) rfl rfl (yl_loadK (rs := [_, _, _, _]) (fun _ h => h ▸ hS) hF rfl rfl 1 rfl ag49 sz49 rfl rfl) ?_
        clear hF; intro a hF
        refine seq_wp (wn_none rfl) (wp_store (cs' := #[_, _, _, _]) hF hS rfl rfl rfl rfl 2 rfl sz49 (by simp [Value.cells, Value.oneCell']) (by simp [Value.cells]) rfl ?_)
        clear hF hS; intro a w hF hS
        refine wpList_nil ?_
        refine then_n ?_
        refine wp_ret ?_
        refine ret_c hF rfl (resC hS rfl 2 rfl ag49 sz49) ?_
        exact ⟨_, rfl, _, _, _, _, rfl, more_no hbm (by omega) (by omega), (hS.sub [] (by decide) (by first | rfl | simp) (by simp))⟩

theorem moreCh_any (b0 b1 b2 b3 : Int) (v : Value) (L : List E36) (w0 : World) (hv : Rd w0 3 v (L).length (cells enc36 (L))) (hmem : ∀ e ∈ L, okG e) (hL : L.length ≤ 4) (hs : (0 ≤ b0 ∧ b0 ≤ 1000000) ∧ (0 ≤ b1 ∧ b1 ≤ 1000000) ∧ (0 ≤ b2 ∧ b2 ≤ 1000000) ∧ (0 ≤ b3 ∧ b3 ≤ 1000000)) :
    Fn Try.prog 30 #[.agg #[.int .i64 b0, .int .i64 b1, .int .i64 b2, .int .i64 b3], v, .func (.func 31) #[] #[]] w0 (fun v w' => ∃ c0 c1 c2 c3, v = .agg #[.int .i64 c0, .int .i64 c1, .int .i64 c2, .int .i64 c3] ∧ [c0, c1, c2, c3] = moreF E36.f2 [b0, b1, b2, b3] L ∧ Sat w0 w' []) := by
  obtain ⟨Av, cv, rfl⟩ := Rd.form hv
  refine c_enter (N := 40) (l := [_, _, _]) Try.func30 rfl rfl (fun a w hF hS => ?_)
  replace hS := hS.addRo hv
  refine c_seq ?_
  refine c_region ?_
  refine seq_wp (wn_none rfl) (wp_box (cs := #[_, _, _, _]) hF hS rfl rfl rfl rfl rfl ?_)
  clear hF hS; intro a w g77 hF hS
  refine seq_wp (wn_none rfl) (wp_alloc (cs := #[_, _, _, _]) hF hS rfl rfl rfl zr49 rfl ?_)
  clear hF hS; intro a w g78 hF hS
  refine wpList_nil ?_
  refine then_n ?_
  refine c_seq ?_
  refine c_region ?_
  refine seq_yl hF (wn_none rfl) rfl rfl (yl_assign hF rfl rfl) ?_
  clear hF; intro a hF
  refine seq_yl hF (wn_none rfl) rfl rfl (yl_assign hF rfl rfl) ?_
  clear hF; intro a hF
  refine wpList_nil ?_
  refine then_n ?_
  refine c_seq ?_
  refine c_seq ?_
  refine c_region ?_
  refine seq_yl hF (wn_none rfl) rfl rfl (yl_move hF rfl rfl) ?_
  clear hF; intro a hF
  refine seq_yl hF (wn_none rfl) rfl rfl (yl_len hF rfl rfl (fun _ => run_lenRd sl26 (hS.rdRo 2 rfl))) ?_
  clear hF; intro a hF
  refine seq_yl hF (wn_none rfl) rfl rfl (yl_move hF rfl rfl) ?_
  clear hF; intro a hF
  refine wpList_nil ?_
  refine then_n ?_
  refine wp_block ?_
  refine c_loop (fun m a w => ∃ (k : Nat) (best most : Int), m = L.length - k ∧ (k ≤ L.length ∧ bestF E36.f2 [b0, b1, b2, b3] L k = (best, most) ∧ -1 ≤ best ∧ best < k) ∧ Fr 40 a [(2, .func (.func 31) #[] #[]), (3, .pointer (some ⟨g77, 0, none⟩)), (6, .pointer (some ⟨g78, 0, none⟩)), (7, .int .i64 (best)), (8, .int .i64 (most)), (12, .slice Av (L).length cv), (13, .int .i64 (((L).length : Nat) : Int)), (14, .int .i64 ((k : Nat) : Int))] ∧ Sat w0 w (.ro 3 (.slice Av (L).length cv) (L).length (cells enc36 (L)) :: .box g77 49 #[.int .i64 (b0), .int .i64 (b1), .int .i64 (b2), .int .i64 (b3)] :: .box g78 49 #[.int .i64 (0 : Int), .int .i64 (0 : Int), .int .i64 (0 : Int), .int .i64 (0 : Int)] :: [])) (L.length - 0) ?_ ?_
  · exact ⟨0, -1, 0, rfl, ⟨Nat.zero_le _, rfl, by omega, by omega⟩, hF.to [2, 3, 6, 7, 8, 12, 13, 14] rfl, (hS.sub [2, 1, 0] (by decide) (by first | rfl | simp) (by simp))⟩
  · clear hF hS; try clear hSS
    clear a w; rintro m a w ⟨k, best, most, rfl, hinv, hF, hS⟩
    obtain ⟨hk, hbm, hb1, hb2⟩ := hinv
    refine c_seq ?_
    refine c_region ?_
    refine seq_yl hF (wn_none rfl) rfl rfl (yl_bin hF rfl rfl rfl rfl (fun _ => run_lss)) ?_
    clear hF; intro a hF
    refine wpList_nil ?_
    refine then_n ?_
    refine c_seq ?_
    refine c_cond hF rfl (fun hc79 => ?_) (fun hc79 => ?_)
    · first | (replace hc79 := of_decide_eq_true hc79) | (replace hc79 := of_decide_eq_false (bnot_t hc79)) | (subst hc79) | (replace hc79 := bnot_t hc79; subst hc79) | (replace hc79 := bnot_t hc79) | skip
      refine wp_skip ?_
      refine then_n ?_
      refine c_seq ?_
      refine wp_block ?_
      refine c_seq ?_
      refine c_region ?_
      refine seq_yl hF (wn_none rfl) rfl rfl (yl_move hF rfl rfl) ?_
      clear hF; intro a hF
      have hlt_hx80 : k < (L).length := by first | omega | (simp; done) | (simp; omega)
      obtain ⟨ad81, rfl⟩ := rd_some (hS.rdRo 0 rfl) hlt_hx80
      obtain ⟨x80, hx80⟩ := get_some hlt_hx80
      have hb_x80 := hmem x80 (List.mem_of_getElem? hx80)
      refine seq_yl hF (wn_none rfl) rfl rfl (yl_indexAddr hF rfl rfl rfl (fun _ => run_idx' sl26 sz36 (hS.rdRo 0 rfl) hlt_hx80)) ?_
      clear hF; intro a hF
      refine seq_yl hF (wn_none rfl) rfl rfl (yl_loadEl (rs := [.int .i64 (x80.f0), .int .i64 (x80.f1), .int .i64 (x80.f2)]) hF rfl rfl ag36 sz36 rfl (fun _ h => rd_cells (enc := enc36) (by subst h; exact hS.rdRo 0 rfl) enc36_len hx80)) ?_
      clear hF; intro a hF
      refine seq_wp (wn_none rfl) (wp_alloc (cs := #[_, _, _]) hF hS rfl rfl rfl zr36 rfl ?_)
      clear hF hS; intro a w g82 hF hS
      refine seq_yl hF (wn_none rfl) rfl rfl (yl_assign hF rfl rfl) ?_
      clear hF; intro a hF
      refine seq_wp (wn_none rfl) (wp_store (cs' := #[_, _, _]) hF hS rfl rfl rfl rfl 0 rfl sz36 (by simp [Value.cells, Value.oneCell']) (by simp [Value.cells]) rfl ?_)
      clear hF hS; intro a w hF hS
      refine wpList_nil ?_
      refine then_n ?_
      refine c_seq ?_
      refine ha_startS hS [0, 2] 8 (by kernel_rfl) ?_; clear hS; intro w hS
      have hSS := hS.sub [0, 2] (by decide) rfl (by simp)
      refine ha_yl 0 hF rfl rfl rfl (by kernel_rfl) (by kernel_rfl) (by kernel_rfl) (by decide) (fun _ _ _ h => h) (wn_none rfl) (.inr hSS) (yl_move hF rfl rfl) ?_
      clear hF; intro a hF
      refine ha_yl 3 hF rfl rfl rfl (by kernel_rfl) (by kernel_rfl) (by kernel_rfl) (by decide) (fun _ _ _ h => h) (wn_none rfl) (.inr hSS) (yl_move hF rfl rfl) ?_
      clear hF; intro a hF
      rcases (by omega : ((k : Nat) : Int) = (0 : Int) ∨ ((k : Nat) : Int) = (1 : Int) ∨ ((k : Nat) : Int) = (2 : Int) ∨ ((k : Nat) : Int) = (3 : Int)) with hr | hr | hr | hr
      · skip
        replace hF := fr_seti (b' := 0) hF (by assumption)
        refine ha_yl 4 hF rfl rfl rfl (by kernel_rfl) (by kernel_rfl) (by kernel_rfl) (by decide) (fun _ _ _ h => h) (wn_none rfl) (.inr hSS) (yl_indexAddr hF rfl rfl rfl (fun w => by kernel_rfl : ∀ w, (Instr.indexAt 49 (.pointer (some ⟨g77, 0, none⟩)) (.int .i64 0)).run Try.prog w = .ok (.pointer (some ⟨g77, 0, none⟩)) w)) ?_
        clear hF; intro a hF
        refine ha_ld 1 hF rfl rfl rfl (by kernel_rfl) (by kernel_rfl) (by kernel_rfl) (by decide) (by kernel_rfl) (by kernel_rfl) (fun _ _ _ h => h) (wn_none rfl) hSS (yl_loadK (rs := [_, _, _]) (fun _ h => h) hF rfl rfl 0 rfl ag36 sz36 rfl rfl) ?_
        clear hF; intro a hF
        refine ha_ld 5 hF rfl rfl rfl (by kernel_rfl) (by kernel_rfl) (by kernel_rfl) (by decide) (by kernel_rfl) (by kernel_rfl) (fun _ _ _ h => h) (wn_none rfl) hSS (yl_load (fun _ h => h) hF rfl rfl 1 rfl ag3 rfl) ?_
        clear hF; intro a hF
        have hh83 := f2_in hb_x80
        refine ha_one 2 (by kernel_rfl) rfl (wn_none rfl) (wp_callV (vs := [_]) hF rfl rfl rfl rfl rfl cf31 (chg_any x80 _) ?_)
        clear hF; rintro _ w ⟨rfl, hS1⟩ a hF
        replace hS := hS.callB hS1 rfl; clear hS1
        replace hSS := hS.sub [0, 2] (by decide) rfl (by simp)
        refine ⟨.inr hSS, ?_⟩
        refine ha_yl 6 hF rfl rfl rfl (by kernel_rfl) (by kernel_rfl) (by kernel_rfl) (by decide) (fun _ _ _ h => h) (wn_none rfl) (.inr hSS) (yl_bin hF rfl rfl rfl rfl (fun _ => run_sub (by refine ⟨?_, ?_⟩ <;> omega))) ?_
        clear hF; intro a hF
        refine ha_yl 7 hF rfl rfl rfl (by kernel_rfl) (by kernel_rfl) (by kernel_rfl) (by decide) (fun _ _ _ h => h) (wn_none rfl) (.inr hSS) (yl_assign hF rfl rfl) ?_
        clear hF; intro a hF
        refine ha_done (by kernel_rfl) ?_ _
        refine then_n ?_
        refine c_seq ?_
        refine c_region ?_
        refine seq_yl hF (wn_none rfl) rfl rfl (yl_move hF rfl rfl) ?_
        clear hF; intro a hF
        refine seq_yl hF (wn_none rfl) rfl rfl (yl_move hF rfl rfl) ?_
        clear hF; intro a hF
        refine seq_yl hF (wn_none rfl) rfl rfl (yl_bin hF rfl rfl rfl rfl (fun _ => run_gtr)) ?_
        clear hF; intro a hF
        refine wpList_nil ?_
        refine then_n ?_
        refine c_cond hF rfl (fun hc84 => ?_) (fun hc84 => ?_)
        · first | (replace hc84 := of_decide_eq_true hc84) | (replace hc84 := of_decide_eq_false (bnot_t hc84)) | (subst hc84) | (replace hc84 := bnot_t hc84; subst hc84) | (replace hc84 := bnot_t hc84) | skip
          refine c_region ?_
          refine seq_yl hF (wn_none rfl) rfl rfl (yl_move hF rfl rfl) ?_
          clear hF; intro a hF
          refine seq_yl hF (wn_none rfl) rfl rfl (yl_move hF rfl rfl) ?_
          clear hF; intro a hF
          refine seq_yl hF (wn_none rfl) rfl rfl (yl_assign hF rfl rfl) ?_
          clear hF; intro a hF
          refine seq_yl hF (wn_none rfl) rfl rfl (yl_assign hF rfl rfl) ?_
          clear hF; intro a hF
          refine wpList_nil ?_
          refine inb_n ?_
          refine then_n ?_
          refine c_region ?_
          refine seq_yl hF (wn_none rfl) rfl rfl (yl_bin hF rfl rfl rfl rfl (fun _ => run_inc (by omega))) ?_
          clear hF; intro a hF
          refine seq_yl hF (wn_none rfl) rfl rfl (yl_move hF rfl rfl) ?_
          clear hF; intro a hF
          refine wpList_nil ?_
          refine then_n ?_
          exact ⟨_, (by omega), k + 1, ((k : Nat) : Int), (((x80.f2) - (b0))), rfl, ⟨by omega, best_yes (c := b0) hbm hx80 (by rw [show k = 0 by omega]; rfl) (by omega), by omega, by omega⟩, hF.to [2, 3, 6, 7, 8, 12, 13, 14] rfl, (hS.sub [1, 2, 3] (by decide) (by first | rfl | simp) (by simp))⟩
        · first | (replace hc84 := of_decide_eq_false hc84) | (replace hc84 := of_decide_eq_true (bnot_f hc84)) | (subst hc84) | (replace hc84 := bnot_f hc84; subst hc84) | (replace hc84 := bnot_f hc84) | skip
          refine wp_skip ?_
          refine inb_n ?_
          refine then_n ?_
          refine c_region ?_
          refine seq_yl hF (wn_none rfl) rfl rfl (yl_bin hF rfl rfl rfl rfl (fun _ => run_inc (by omega))) ?_
          clear hF; intro a hF
          refine seq_yl hF (wn_none rfl) rfl rfl (yl_move hF rfl rfl) ?_
          clear hF; intro a hF
          refine wpList_nil ?_
          refine then_n ?_
          exact ⟨_, (by omega), k + 1, (best), (most), rfl, ⟨by omega, best_no (c := b0) hbm hx80 (by rw [show k = 0 by omega]; rfl) (by omega), by omega, by omega⟩, hF.to [2, 3, 6, 7, 8, 12, 13, 14] rfl, (hS.sub [1, 2, 3] (by decide) (by first | rfl | simp) (by simp))⟩
      · skip
        replace hF := fr_seti (b' := 1) hF (by assumption)
        refine ha_yl 4 hF rfl rfl rfl (by kernel_rfl) (by kernel_rfl) (by kernel_rfl) (by decide) (fun _ _ _ h => h) (wn_none rfl) (.inr hSS) (yl_indexAddr hF rfl rfl rfl (fun w => by kernel_rfl : ∀ w, (Instr.indexAt 49 (.pointer (some ⟨g77, 0, none⟩)) (.int .i64 1)).run Try.prog w = .ok (.pointer (some ⟨g77, 1, none⟩)) w)) ?_
        clear hF; intro a hF
        refine ha_ld 1 hF rfl rfl rfl (by kernel_rfl) (by kernel_rfl) (by kernel_rfl) (by decide) (by kernel_rfl) (by kernel_rfl) (fun _ _ _ h => h) (wn_none rfl) hSS (yl_loadK (rs := [_, _, _]) (fun _ h => h) hF rfl rfl 0 rfl ag36 sz36 rfl rfl) ?_
        clear hF; intro a hF
        refine ha_ld 5 hF rfl rfl rfl (by kernel_rfl) (by kernel_rfl) (by kernel_rfl) (by decide) (by kernel_rfl) (by kernel_rfl) (fun _ _ _ h => h) (wn_none rfl) hSS (yl_load (fun _ h => h) hF rfl rfl 1 rfl ag3 rfl) ?_
        clear hF; intro a hF
        have hh85 := f2_in hb_x80
        refine ha_one 2 (by kernel_rfl) rfl (wn_none rfl) (wp_callV (vs := [_]) hF rfl rfl rfl rfl rfl cf31 (chg_any x80 _) ?_)
        clear hF; rintro _ w ⟨rfl, hS1⟩ a hF
        replace hS := hS.callB hS1 rfl; clear hS1
        replace hSS := hS.sub [0, 2] (by decide) rfl (by simp)
        refine ⟨.inr hSS, ?_⟩
        refine ha_yl 6 hF rfl rfl rfl (by kernel_rfl) (by kernel_rfl) (by kernel_rfl) (by decide) (fun _ _ _ h => h) (wn_none rfl) (.inr hSS) (yl_bin hF rfl rfl rfl rfl (fun _ => run_sub (by refine ⟨?_, ?_⟩ <;> omega))) ?_
        clear hF; intro a hF
        refine ha_yl 7 hF rfl rfl rfl (by kernel_rfl) (by kernel_rfl) (by kernel_rfl) (by decide) (fun _ _ _ h => h) (wn_none rfl) (.inr hSS) (yl_assign hF rfl rfl) ?_
        clear hF; intro a hF
        refine ha_done (by kernel_rfl) ?_ _
        refine then_n ?_
        refine c_seq ?_
        refine c_region ?_
        refine seq_yl hF (wn_none rfl) rfl rfl (yl_move hF rfl rfl) ?_
        clear hF; intro a hF
        refine seq_yl hF (wn_none rfl) rfl rfl (yl_move hF rfl rfl) ?_
        clear hF; intro a hF
        refine seq_yl hF (wn_none rfl) rfl rfl (yl_bin hF rfl rfl rfl rfl (fun _ => run_gtr)) ?_
        clear hF; intro a hF
        refine wpList_nil ?_
        refine then_n ?_
        refine c_cond hF rfl (fun hc86 => ?_) (fun hc86 => ?_)
        · first | (replace hc86 := of_decide_eq_true hc86) | (replace hc86 := of_decide_eq_false (bnot_t hc86)) | (subst hc86) | (replace hc86 := bnot_t hc86; subst hc86) | (replace hc86 := bnot_t hc86) | skip
          refine c_region ?_
          refine seq_yl hF (wn_none rfl) rfl rfl (yl_move hF rfl rfl) ?_
          clear hF; intro a hF
          refine seq_yl hF (wn_none rfl) rfl rfl (yl_move hF rfl rfl) ?_
          clear hF; intro a hF
          refine seq_yl hF (wn_none rfl) rfl rfl (yl_assign hF rfl rfl) ?_
          clear hF; intro a hF
          refine seq_yl hF (wn_none rfl) rfl rfl (yl_assign hF rfl rfl) ?_
          clear hF; intro a hF
          refine wpList_nil ?_
          refine inb_n ?_
          refine then_n ?_
          refine c_region ?_
          refine seq_yl hF (wn_none rfl) rfl rfl (yl_bin hF rfl rfl rfl rfl (fun _ => run_inc (by omega))) ?_
          clear hF; intro a hF
          refine seq_yl hF (wn_none rfl) rfl rfl (yl_move hF rfl rfl) ?_
          clear hF; intro a hF
          refine wpList_nil ?_
          refine then_n ?_
          exact ⟨_, (by omega), k + 1, ((k : Nat) : Int), (((x80.f2) - (b1))), rfl, ⟨by omega, best_yes (c := b1) hbm hx80 (by rw [show k = 1 by omega]; rfl) (by omega), by omega, by omega⟩, hF.to [2, 3, 6, 7, 8, 12, 13, 14] rfl, (hS.sub [1, 2, 3] (by decide) (by first | rfl | simp) (by simp))⟩
        · first | (replace hc86 := of_decide_eq_false hc86) | (replace hc86 := of_decide_eq_true (bnot_f hc86)) | (subst hc86) | (replace hc86 := bnot_f hc86; subst hc86) | (replace hc86 := bnot_f hc86) | skip
          refine wp_skip ?_
          refine inb_n ?_
          refine then_n ?_
          refine c_region ?_
          refine seq_yl hF (wn_none rfl) rfl rfl (yl_bin hF rfl rfl rfl rfl (fun _ => run_inc (by omega))) ?_
          clear hF; intro a hF
          refine seq_yl hF (wn_none rfl) rfl rfl (yl_move hF rfl rfl) ?_
          clear hF; intro a hF
          refine wpList_nil ?_
          refine then_n ?_
          exact ⟨_, (by omega), k + 1, (best), (most), rfl, ⟨by omega, best_no (c := b1) hbm hx80 (by rw [show k = 1 by omega]; rfl) (by omega), by omega, by omega⟩, hF.to [2, 3, 6, 7, 8, 12, 13, 14] rfl, (hS.sub [1, 2, 3] (by decide) (by first | rfl | simp) (by simp))⟩
      · skip
        replace hF := fr_seti (b' := 2) hF (by assumption)
        refine ha_yl 4 hF rfl rfl rfl (by kernel_rfl) (by kernel_rfl) (by kernel_rfl) (by decide) (fun _ _ _ h => h) (wn_none rfl) (.inr hSS) (yl_indexAddr hF rfl rfl rfl (fun w => by kernel_rfl : ∀ w, (Instr.indexAt 49 (.pointer (some ⟨g77, 0, none⟩)) (.int .i64 2)).run Try.prog w = .ok (.pointer (some ⟨g77, 2, none⟩)) w)) ?_
        clear hF; intro a hF
        refine ha_ld 1 hF rfl rfl rfl (by kernel_rfl) (by kernel_rfl) (by kernel_rfl) (by decide) (by kernel_rfl) (by kernel_rfl) (fun _ _ _ h => h) (wn_none rfl) hSS (yl_loadK (rs := [_, _, _]) (fun _ h => h) hF rfl rfl 0 rfl ag36 sz36 rfl rfl) ?_
        clear hF; intro a hF
        refine ha_ld 5 hF rfl rfl rfl (by kernel_rfl) (by kernel_rfl) (by kernel_rfl) (by decide) (by kernel_rfl) (by kernel_rfl) (fun _ _ _ h => h) (wn_none rfl) hSS (yl_load (fun _ h => h) hF rfl rfl 1 rfl ag3 rfl) ?_
        clear hF; intro a hF
        have hh87 := f2_in hb_x80
        refine ha_one 2 (by kernel_rfl) rfl (wn_none rfl) (wp_callV (vs := [_]) hF rfl rfl rfl rfl rfl cf31 (chg_any x80 _) ?_)
        clear hF; rintro _ w ⟨rfl, hS1⟩ a hF
        replace hS := hS.callB hS1 rfl; clear hS1
        replace hSS := hS.sub [0, 2] (by decide) rfl (by simp)
        refine ⟨.inr hSS, ?_⟩
        refine ha_yl 6 hF rfl rfl rfl (by kernel_rfl) (by kernel_rfl) (by kernel_rfl) (by decide) (fun _ _ _ h => h) (wn_none rfl) (.inr hSS) (yl_bin hF rfl rfl rfl rfl (fun _ => run_sub (by refine ⟨?_, ?_⟩ <;> omega))) ?_
        clear hF; intro a hF
        refine ha_yl 7 hF rfl rfl rfl (by kernel_rfl) (by kernel_rfl) (by kernel_rfl) (by decide) (fun _ _ _ h => h) (wn_none rfl) (.inr hSS) (yl_assign hF rfl rfl) ?_
        clear hF; intro a hF
        refine ha_done (by kernel_rfl) ?_ _
        refine then_n ?_
        refine c_seq ?_
        refine c_region ?_
        refine seq_yl hF (wn_none rfl) rfl rfl (yl_move hF rfl rfl) ?_
        clear hF; intro a hF
        refine seq_yl hF (wn_none rfl) rfl rfl (yl_move hF rfl rfl) ?_
        clear hF; intro a hF
        refine seq_yl hF (wn_none rfl) rfl rfl (yl_bin hF rfl rfl rfl rfl (fun _ => run_gtr)) ?_
        clear hF; intro a hF
        refine wpList_nil ?_
        refine then_n ?_
        refine c_cond hF rfl (fun hc88 => ?_) (fun hc88 => ?_)
        · first | (replace hc88 := of_decide_eq_true hc88) | (replace hc88 := of_decide_eq_false (bnot_t hc88)) | (subst hc88) | (replace hc88 := bnot_t hc88; subst hc88) | (replace hc88 := bnot_t hc88) | skip
          refine c_region ?_
          refine seq_yl hF (wn_none rfl) rfl rfl (yl_move hF rfl rfl) ?_
          clear hF; intro a hF
          refine seq_yl hF (wn_none rfl) rfl rfl (yl_move hF rfl rfl) ?_
          clear hF; intro a hF
          refine seq_yl hF (wn_none rfl) rfl rfl (yl_assign hF rfl rfl) ?_
          clear hF; intro a hF
          refine seq_yl hF (wn_none rfl) rfl rfl (yl_assign hF rfl rfl) ?_
          clear hF; intro a hF
          refine wpList_nil ?_
          refine inb_n ?_
          refine then_n ?_
          refine c_region ?_
          refine seq_yl hF (wn_none rfl) rfl rfl (yl_bin hF rfl rfl rfl rfl (fun _ => run_inc (by omega))) ?_
          clear hF; intro a hF
          refine seq_yl hF (wn_none rfl) rfl rfl (yl_move hF rfl rfl) ?_
          clear hF; intro a hF
          refine wpList_nil ?_
          refine then_n ?_
          exact ⟨_, (by omega), k + 1, ((k : Nat) : Int), (((x80.f2) - (b2))), rfl, ⟨by omega, best_yes (c := b2) hbm hx80 (by rw [show k = 2 by omega]; rfl) (by omega), by omega, by omega⟩, hF.to [2, 3, 6, 7, 8, 12, 13, 14] rfl, (hS.sub [1, 2, 3] (by decide) (by first | rfl | simp) (by simp))⟩
        · first | (replace hc88 := of_decide_eq_false hc88) | (replace hc88 := of_decide_eq_true (bnot_f hc88)) | (subst hc88) | (replace hc88 := bnot_f hc88; subst hc88) | (replace hc88 := bnot_f hc88) | skip
          refine wp_skip ?_
          refine inb_n ?_
          refine then_n ?_
          refine c_region ?_
          refine seq_yl hF (wn_none rfl) rfl rfl (yl_bin hF rfl rfl rfl rfl (fun _ => run_inc (by omega))) ?_
          clear hF; intro a hF
          refine seq_yl hF (wn_none rfl) rfl rfl (yl_move hF rfl rfl) ?_
          clear hF; intro a hF
          refine wpList_nil ?_
          refine then_n ?_
          exact ⟨_, (by omega), k + 1, (best), (most), rfl, ⟨by omega, best_no (c := b2) hbm hx80 (by rw [show k = 2 by omega]; rfl) (by omega), by omega, by omega⟩, hF.to [2, 3, 6, 7, 8, 12, 13, 14] rfl, (hS.sub [1, 2, 3] (by decide) (by first | rfl | simp) (by simp))⟩
      · skip
        replace hF := fr_seti (b' := 3) hF (by assumption)
        refine ha_yl 4 hF rfl rfl rfl (by kernel_rfl) (by kernel_rfl) (by kernel_rfl) (by decide) (fun _ _ _ h => h) (wn_none rfl) (.inr hSS) (yl_indexAddr hF rfl rfl rfl (fun w => by kernel_rfl : ∀ w, (Instr.indexAt 49 (.pointer (some ⟨g77, 0, none⟩)) (.int .i64 3)).run Try.prog w = .ok (.pointer (some ⟨g77, 3, none⟩)) w)) ?_
        clear hF; intro a hF
        refine ha_ld 1 hF rfl rfl rfl (by kernel_rfl) (by kernel_rfl) (by kernel_rfl) (by decide) (by kernel_rfl) (by kernel_rfl) (fun _ _ _ h => h) (wn_none rfl) hSS (yl_loadK (rs := [_, _, _]) (fun _ h => h) hF rfl rfl 0 rfl ag36 sz36 rfl rfl) ?_
        clear hF; intro a hF
        refine ha_ld 5 hF rfl rfl rfl (by kernel_rfl) (by kernel_rfl) (by kernel_rfl) (by decide) (by kernel_rfl) (by kernel_rfl) (fun _ _ _ h => h) (wn_none rfl) hSS (yl_load (fun _ h => h) hF rfl rfl 1 rfl ag3 rfl) ?_
        clear hF; intro a hF
        have hh89 := f2_in hb_x80
        refine ha_one 2 (by kernel_rfl) rfl (wn_none rfl) (wp_callV (vs := [_]) hF rfl rfl rfl rfl rfl cf31 (chg_any x80 _) ?_)
        clear hF; rintro _ w ⟨rfl, hS1⟩ a hF
        replace hS := hS.callB hS1 rfl; clear hS1
        replace hSS := hS.sub [0, 2] (by decide) rfl (by simp)
        refine ⟨.inr hSS, ?_⟩
        refine ha_yl 6 hF rfl rfl rfl (by kernel_rfl) (by kernel_rfl) (by kernel_rfl) (by decide) (fun _ _ _ h => h) (wn_none rfl) (.inr hSS) (yl_bin hF rfl rfl rfl rfl (fun _ => run_sub (by refine ⟨?_, ?_⟩ <;> omega))) ?_
        clear hF; intro a hF
        refine ha_yl 7 hF rfl rfl rfl (by kernel_rfl) (by kernel_rfl) (by kernel_rfl) (by decide) (fun _ _ _ h => h) (wn_none rfl) (.inr hSS) (yl_assign hF rfl rfl) ?_
        clear hF; intro a hF
        refine ha_done (by kernel_rfl) ?_ _
        refine then_n ?_
        refine c_seq ?_
        refine c_region ?_
        refine seq_yl hF (wn_none rfl) rfl rfl (yl_move hF rfl rfl) ?_
        clear hF; intro a hF
        refine seq_yl hF (wn_none rfl) rfl rfl (yl_move hF rfl rfl) ?_
        clear hF; intro a hF
        refine seq_yl hF (wn_none rfl) rfl rfl (yl_bin hF rfl rfl rfl rfl (fun _ => run_gtr)) ?_
        clear hF; intro a hF
        refine wpList_nil ?_
        refine then_n ?_
        refine c_cond hF rfl (fun hc90 => ?_) (fun hc90 => ?_)
        · first | (replace hc90 := of_decide_eq_true hc90) | (replace hc90 := of_decide_eq_false (bnot_t hc90)) | (subst hc90) | (replace hc90 := bnot_t hc90; subst hc90) | (replace hc90 := bnot_t hc90) | skip
          refine c_region ?_
          refine seq_yl hF (wn_none rfl) rfl rfl (yl_move hF rfl rfl) ?_
          clear hF; intro a hF
          refine seq_yl hF (wn_none rfl) rfl rfl (yl_move hF rfl rfl) ?_
          clear hF; intro a hF
          refine seq_yl hF (wn_none rfl) rfl rfl (yl_assign hF rfl rfl) ?_
          clear hF; intro a hF
          refine seq_yl hF (wn_none rfl) rfl rfl (yl_assign hF rfl rfl) ?_
          clear hF; intro a hF
          refine wpList_nil ?_
          refine inb_n ?_
          refine then_n ?_
          refine c_region ?_
          refine seq_yl hF (wn_none rfl) rfl rfl (yl_bin hF rfl rfl rfl rfl (fun _ => run_inc (by omega))) ?_
          clear hF; intro a hF
          refine seq_yl hF (wn_none rfl) rfl rfl (yl_move hF rfl rfl) ?_
          clear hF; intro a hF
          refine wpList_nil ?_
          refine then_n ?_
          exact ⟨_, (by omega), k + 1, ((k : Nat) : Int), (((x80.f2) - (b3))), rfl, ⟨by omega, best_yes (c := b3) hbm hx80 (by rw [show k = 3 by omega]; rfl) (by omega), by omega, by omega⟩, hF.to [2, 3, 6, 7, 8, 12, 13, 14] rfl, (hS.sub [1, 2, 3] (by decide) (by first | rfl | simp) (by simp))⟩
        · first | (replace hc90 := of_decide_eq_false hc90) | (replace hc90 := of_decide_eq_true (bnot_f hc90)) | (subst hc90) | (replace hc90 := bnot_f hc90; subst hc90) | (replace hc90 := bnot_f hc90) | skip
          refine wp_skip ?_
          refine inb_n ?_
          refine then_n ?_
          refine c_region ?_
          refine seq_yl hF (wn_none rfl) rfl rfl (yl_bin hF rfl rfl rfl rfl (fun _ => run_inc (by omega))) ?_
          clear hF; intro a hF
          refine seq_yl hF (wn_none rfl) rfl rfl (yl_move hF rfl rfl) ?_
          clear hF; intro a hF
          refine wpList_nil ?_
          refine then_n ?_
          exact ⟨_, (by omega), k + 1, (best), (most), rfl, ⟨by omega, best_no (c := b3) hbm hx80 (by rw [show k = 3 by omega]; rfl) (by omega), by omega, by omega⟩, hF.to [2, 3, 6, 7, 8, 12, 13, 14] rfl, (hS.sub [1, 2, 3] (by decide) (by first | rfl | simp) (by simp))⟩
    · first | (replace hc79 := of_decide_eq_false hc79) | (replace hc79 := of_decide_eq_true (bnot_f hc79)) | (subst hc79) | (replace hc79 := bnot_f hc79; subst hc79) | (replace hc79 := bnot_f hc79) | skip
      refine wp_exit ?_
      refine then_x ?_
      refine then_x ?_
      refine inb_x ?_
      refine then_n ?_
      refine c_seq ?_
      refine c_seq ?_
      refine c_region ?_
      refine seq_yl hF (wn_none rfl) rfl rfl (yl_move hF rfl rfl) ?_
      clear hF; intro a hF
      refine seq_yl hF (wn_none rfl) rfl rfl (yl_bin hF rfl rfl rfl rfl (fun _ => run_geq)) ?_
      clear hF; intro a hF
      refine wpList_nil ?_
      refine then_n ?_
      refine c_cond hF rfl (fun hc91 => ?_) (fun hc91 => ?_)
      · first | (replace hc91 := of_decide_eq_true hc91) | (replace hc91 := of_decide_eq_false (bnot_t hc91)) | (subst hc91) | (replace hc91 := bnot_t hc91; subst hc91) | (replace hc91 := bnot_t hc91) | skip
        refine c_region ?_
        refine seq_yl hF (wn_none rfl) rfl rfl (yl_move hF rfl rfl) ?_
        clear hF; intro a hF
        rcases (by omega : best = (0 : Int) ∨ best = (1 : Int) ∨ best = (2 : Int) ∨ best = (3 : Int)) with hr | hr | hr | hr
        · skip
          replace hF := fr_seti (b' := 0) hF (by assumption)
          refine seq_yl hF (wn_none rfl) rfl rfl (yl_indexAddr hF rfl rfl rfl (fun w => by kernel_rfl : ∀ w, (Instr.indexAt 49 (.pointer (some ⟨g77, 0, none⟩)) (.int .i64 0)).run Try.prog w = .ok (.pointer (some ⟨g77, 0, none⟩)) w)) ?_
          clear hF; intro a hF
          refine seq_yl hF (wn_none rfl) rfl rfl (yl_load (fun _ h => h ▸ hS) hF rfl rfl 1 rfl ag3 rfl) ?_
          clear hF; intro a hF
          refine seq_yl hF (wn_none rfl) rfl rfl (yl_bin hF rfl rfl rfl rfl (fun _ => run_add (by refine ⟨?_, ?_⟩ <;> omega))) ?_
          clear hF; intro a hF
          refine seq_yl hF (wn_none rfl) rfl rfl (yl_indexAddr hF rfl rfl rfl (fun w => by kernel_rfl : ∀ w, (Instr.indexAt 49 (.pointer (some ⟨g77, 0, none⟩)) (.int .i64 0)).run Try.prog w = .ok (.pointer (some ⟨g77, 0, none⟩)) w)) ?_
          clear hF; intro a hF
          refine seq_wp (wn_none rfl) (wp_store (cs' := #[_, _, _, _]) hF hS rfl rfl rfl rfl 1 rfl sz3 (by simp [Value.cells, Value.oneCell']) (by simp [Value.cells]) rfl ?_)
          clear hF hS; intro a w hF hS
          refine wpList_nil ?_
          refine then_n ?_
          refine c_seq ?_
          refine c_region ?_
          refine seq_yl hF (wn_none rfl) rfl rfl (yl_loadK (rs := [_, _, _, _]) (fun _ h => h ▸ hS) hF rfl rfl 1 rfl ag49 sz49 rfl rfl) ?_
          clear hF; intro a hF
          refine seq_wp (wn_none rfl) (wp_store (cs' := #[_, _, _, _]) hF hS rfl rfl rfl rfl 2 rfl sz49 (by simp [Value.cells, Value.oneCell']) (by simp [Value.cells]) rfl ?_)
          clear hF hS; intro a w hF hS
          refine wpList_nil ?_
          refine then_n ?_
          refine wp_ret ?_
          refine ret_c hF rfl (resC hS rfl 2 rfl ag49 sz49) ?_
          exact ⟨_, rfl, _, _, _, _, rfl, more_yes (j := 0) (c := b0) hbm (by omega) (by omega) rfl, (hS.sub [] (by decide) (by first | rfl | simp) (by simp))⟩
        · skip
          replace hF := fr_seti (b' := 1) hF (by assumption)
          refine seq_yl hF (wn_none rfl) rfl rfl (yl_indexAddr hF rfl rfl rfl (fun w => by kernel_rfl : ∀ w, (Instr.indexAt 49 (.pointer (some ⟨g77, 0, none⟩)) (.int .i64 1)).run Try.prog w = .ok (.pointer (some ⟨g77, 1, none⟩)) w)) ?_
          clear hF; intro a hF
          refine seq_yl hF (wn_none rfl) rfl rfl (yl_load (fun _ h => h ▸ hS) hF rfl rfl 1 rfl ag3 rfl) ?_
          clear hF; intro a hF
          refine seq_yl hF (wn_none rfl) rfl rfl (yl_bin hF rfl rfl rfl rfl (fun _ => run_add (by refine ⟨?_, ?_⟩ <;> omega))) ?_
          clear hF; intro a hF
          refine seq_yl hF (wn_none rfl) rfl rfl (yl_indexAddr hF rfl rfl rfl (fun w => by kernel_rfl : ∀ w, (Instr.indexAt 49 (.pointer (some ⟨g77, 0, none⟩)) (.int .i64 1)).run Try.prog w = .ok (.pointer (some ⟨g77, 1, none⟩)) w)) ?_
          clear hF; intro a hF
          refine seq_wp (wn_none rfl) (wp_store (cs' := #[_, _, _, _]) hF hS rfl rfl rfl rfl 1 rfl sz3 (by simp [Value.cells, Value.oneCell']) (by simp [Value.cells]) rfl ?_)
          clear hF hS; intro a w hF hS
          refine wpList_nil ?_
          refine then_n ?_
          refine c_seq ?_
          refine c_region ?_
          refine seq_yl hF (wn_none rfl) rfl rfl (yl_loadK (rs := [_, _, _, _]) (fun _ h => h ▸ hS) hF rfl rfl 1 rfl ag49 sz49 rfl rfl) ?_
          clear hF; intro a hF
          refine seq_wp (wn_none rfl) (wp_store (cs' := #[_, _, _, _]) hF hS rfl rfl rfl rfl 2 rfl sz49 (by simp [Value.cells, Value.oneCell']) (by simp [Value.cells]) rfl ?_)
          clear hF hS; intro a w hF hS
          refine wpList_nil ?_
          refine then_n ?_
          refine wp_ret ?_
          refine ret_c hF rfl (resC hS rfl 2 rfl ag49 sz49) ?_
          exact ⟨_, rfl, _, _, _, _, rfl, more_yes (j := 1) (c := b1) hbm (by omega) (by omega) rfl, (hS.sub [] (by decide) (by first | rfl | simp) (by simp))⟩
        · skip
          replace hF := fr_seti (b' := 2) hF (by assumption)
          refine seq_yl hF (wn_none rfl) rfl rfl (yl_indexAddr hF rfl rfl rfl (fun w => by kernel_rfl : ∀ w, (Instr.indexAt 49 (.pointer (some ⟨g77, 0, none⟩)) (.int .i64 2)).run Try.prog w = .ok (.pointer (some ⟨g77, 2, none⟩)) w)) ?_
          clear hF; intro a hF
          refine seq_yl hF (wn_none rfl) rfl rfl (yl_load (fun _ h => h ▸ hS) hF rfl rfl 1 rfl ag3 rfl) ?_
          clear hF; intro a hF
          refine seq_yl hF (wn_none rfl) rfl rfl (yl_bin hF rfl rfl rfl rfl (fun _ => run_add (by refine ⟨?_, ?_⟩ <;> omega))) ?_
          clear hF; intro a hF
          refine seq_yl hF (wn_none rfl) rfl rfl (yl_indexAddr hF rfl rfl rfl (fun w => by kernel_rfl : ∀ w, (Instr.indexAt 49 (.pointer (some ⟨g77, 0, none⟩)) (.int .i64 2)).run Try.prog w = .ok (.pointer (some ⟨g77, 2, none⟩)) w)) ?_
          clear hF; intro a hF
          refine seq_wp (wn_none rfl) (wp_store (cs' := #[_, _, _, _]) hF hS rfl rfl rfl rfl 1 rfl sz3 (by simp [Value.cells, Value.oneCell']) (by simp [Value.cells]) rfl ?_)
          clear hF hS; intro a w hF hS
          refine wpList_nil ?_
          refine then_n ?_
          refine c_seq ?_
          refine c_region ?_
          refine seq_yl hF (wn_none rfl) rfl rfl (yl_loadK (rs := [_, _, _, _]) (fun _ h => h ▸ hS) hF rfl rfl 1 rfl ag49 sz49 rfl rfl) ?_
          clear hF; intro a hF
          refine seq_wp (wn_none rfl) (wp_store (cs' := #[_, _, _, _]) hF hS rfl rfl rfl rfl 2 rfl sz49 (by simp [Value.cells, Value.oneCell']) (by simp [Value.cells]) rfl ?_)
          clear hF hS; intro a w hF hS
          refine wpList_nil ?_
          refine then_n ?_
          refine wp_ret ?_
          refine ret_c hF rfl (resC hS rfl 2 rfl ag49 sz49) ?_
          exact ⟨_, rfl, _, _, _, _, rfl, more_yes (j := 2) (c := b2) hbm (by omega) (by omega) rfl, (hS.sub [] (by decide) (by first | rfl | simp) (by simp))⟩
        · skip
          replace hF := fr_seti (b' := 3) hF (by assumption)
          refine seq_yl hF (wn_none rfl) rfl rfl (yl_indexAddr hF rfl rfl rfl (fun w => by kernel_rfl : ∀ w, (Instr.indexAt 49 (.pointer (some ⟨g77, 0, none⟩)) (.int .i64 3)).run Try.prog w = .ok (.pointer (some ⟨g77, 3, none⟩)) w)) ?_
          clear hF; intro a hF
          refine seq_yl hF (wn_none rfl) rfl rfl (yl_load (fun _ h => h ▸ hS) hF rfl rfl 1 rfl ag3 rfl) ?_
          clear hF; intro a hF
          refine seq_yl hF (wn_none rfl) rfl rfl (yl_bin hF rfl rfl rfl rfl (fun _ => run_add (by refine ⟨?_, ?_⟩ <;> omega))) ?_
          clear hF; intro a hF
          refine seq_yl hF (wn_none rfl) rfl rfl (yl_indexAddr hF rfl rfl rfl (fun w => by kernel_rfl : ∀ w, (Instr.indexAt 49 (.pointer (some ⟨g77, 0, none⟩)) (.int .i64 3)).run Try.prog w = .ok (.pointer (some ⟨g77, 3, none⟩)) w)) ?_
          clear hF; intro a hF
          refine seq_wp (wn_none rfl) (wp_store (cs' := #[_, _, _, _]) hF hS rfl rfl rfl rfl 1 rfl sz3 (by simp [Value.cells, Value.oneCell']) (by simp [Value.cells]) rfl ?_)
          clear hF hS; intro a w hF hS
          refine wpList_nil ?_
          refine then_n ?_
          refine c_seq ?_
          refine c_region ?_
          refine seq_yl hF (wn_none rfl) rfl rfl (yl_loadK (rs := [_, _, _, _]) (fun _ h => h ▸ hS) hF rfl rfl 1 rfl ag49 sz49 rfl rfl) ?_
          clear hF; intro a hF
          refine seq_wp (wn_none rfl) (wp_store (cs' := #[_, _, _, _]) hF hS rfl rfl rfl rfl 2 rfl sz49 (by simp [Value.cells, Value.oneCell']) (by simp [Value.cells]) rfl ?_)
          clear hF hS; intro a w hF hS
          refine wpList_nil ?_
          refine then_n ?_
          refine wp_ret ?_
          refine ret_c hF rfl (resC hS rfl 2 rfl ag49 sz49) ?_
          exact ⟨_, rfl, _, _, _, _, rfl, more_yes (j := 3) (c := b3) hbm (by omega) (by omega) rfl, (hS.sub [] (by decide) (by first | rfl | simp) (by simp))⟩
      · first | (replace hc91 := of_decide_eq_false hc91) | (replace hc91 := of_decide_eq_true (bnot_f hc91)) | (subst hc91) | (replace hc91 := bnot_f hc91; subst hc91) | (replace hc91 := bnot_f hc91) | skip
        refine wp_skip ?_
        refine then_n ?_
        refine c_seq ?_
        refine c_region ?_
        refine seq_yl hF (wn_none rfl) rfl rfl (yl_loadK (rs := [_, _, _, _]) (fun _ h => h ▸ hS) hF rfl rfl 1 rfl ag49 sz49 rfl rfl) ?_
        clear hF; intro a hF
        refine seq_wp (wn_none rfl) (wp_store (cs' := #[_, _, _, _]) hF hS rfl rfl rfl rfl 2 rfl sz49 (by simp [Value.cells, Value.oneCell']) (by simp [Value.cells]) rfl ?_)
        clear hF hS; intro a w hF hS
        refine wpList_nil ?_
        refine then_n ?_
        refine wp_ret ?_
        refine ret_c hF rfl (resC hS rfl 2 rfl ag49 sz49) ?_
        exact ⟨_, rfl, _, _, _, _, rfl, more_no hbm (by omega) (by omega), (hS.sub [] (by decide) (by first | rfl | simp) (by simp))⟩

end Go.Proofs.Ytiifpgkdgnoafaa

/- walks, printed by wip/gen -/
import Derived.Test.YtjjjmpkmjicpbaaF
import Derived.Test.YtjjjmpkmjicpbaaP2
namespace Go.Proofs.Ytjjjmpkmjicpbaa
open Go.RowKit
set_option linter.unusedVariables false
set_option linter.unusedSimpArgs false

theorem sameC_any (v u : Value) (L M : List E39) (w0 : World) (hv : Rd w0 12 v (L).length (cells enc39 (L))) (hu : Rd w0 12 u (M).length (cells enc39 (M))) (hL : L.length ≤ 1000000) :
    Fn Try.prog 20 #[v, u] w0 (fun v w' => v = .bool (decide (L = M)) ∧ Sat w0 w' []) := by
  obtain ⟨Av, cv, rfl⟩ := Rd.form hv
  obtain ⟨Au, cu, rfl⟩ := Rd.form hu
  refine c_enter (N := 26) (l := [_, _]) Try.func20 rfl rfl (fun a w hF hS => ?_)
  replace hS := hS.addRo hu
  replace hS := hS.addRo hv
  refine c_seq ?_
  refine c_region ?_
  refine seq_yl hF (wn_none rfl) rfl rfl (yl_assign hF rfl rfl) ?_
  clear hF; intro a hF
  refine wpList_nil ?_
  refine then_n ?_
  refine c_seq ?_
  refine c_seq ?_
  refine c_region ?_
  refine seq_yl hF (wn_none rfl) rfl rfl (yl_move hF rfl rfl) ?_
  clear hF; intro a hF
  refine seq_yl hF (wn_none rfl) rfl rfl (yl_len hF rfl rfl (fun _ => run_lenRd sl23 (hS.rdRo 0 rfl))) ?_
  clear hF; intro a hF
  refine seq_yl hF (wn_none rfl) rfl rfl (yl_move hF rfl rfl) ?_
  clear hF; intro a hF
  refine seq_yl hF (wn_none rfl) rfl rfl (yl_len hF rfl rfl (fun _ => run_lenRd sl23 (hS.rdRo 1 rfl))) ?_
  clear hF; intro a hF
  refine seq_yl hF (wn_none rfl) rfl rfl (yl_bin hF rfl rfl rfl rfl (fun _ => run_neq)) ?_
  clear hF; intro a hF
  refine wpList_nil ?_
  refine then_n ?_
  refine c_cond hF rfl (fun hc212 => ?_) (fun hc212 => ?_)
  · first | (replace hc212 := of_decide_eq_true hc212) | (replace hc212 := of_decide_eq_false (bnot_t hc212)) | (subst hc212) | (replace hc212 := bnot_t hc212; subst hc212) | (replace hc212 := bnot_t hc212) | skip
    refine c_seq ?_
    refine c_region ?_
    refine seq_yl hF (wn_none rfl) rfl rfl (yl_assign hF rfl rfl) ?_
    clear hF; intro a hF
    refine wpList_nil ?_
    refine then_n ?_
    refine wp_ret ?_
    refine then_r ?_
    refine ret_t hF rfl rfl ?_
    exact ⟨_, rfl, congrArg Value.bool (dec_f (by rintro rfl; omega)), (hS.sub [] (by decide) (by first | rfl | simp) (by simp))⟩
  · first | (replace hc212 := of_decide_eq_false hc212) | (replace hc212 := of_decide_eq_true (bnot_f hc212)) | (subst hc212) | (replace hc212 := bnot_f hc212; subst hc212) | (replace hc212 := bnot_f hc212) | skip
    refine wp_skip ?_
    refine then_n ?_
    refine c_seq ?_
    refine c_seq ?_
    refine c_region ?_
    refine seq_yl hF (wn_none rfl) rfl rfl (yl_assign hF rfl rfl) ?_
    clear hF; intro a hF
    refine wpList_nil ?_
    refine then_n ?_
    refine wp_block ?_
    refine c_loop (fun m a w => ∃ (k : Nat), m = L.length - k ∧ (k ≤ L.length ∧ L.take k = M.take k) ∧ Fr 26 a [(0, .slice Av (L).length cv), (1, .slice Au (M).length cu), (5, .int .i64 ((k : Nat) : Int))] ∧ Sat w0 w (.ro 12 (.slice Av (L).length cv) (L).length (cells enc39 (L)) :: .ro 12 (.slice Au (M).length cu) (M).length (cells enc39 (M)) :: [])) (L.length - 0) ?_ ?_
    · exact ⟨0, rfl, ⟨Nat.zero_le _, by simp⟩, hF.to [0, 1, 5] rfl, (hS.sub [0, 1] (by decide) (by first | rfl | simp) (by simp))⟩
    · clear hF hS; try clear hSS
      clear a w; rintro m a w ⟨k, rfl, hinv, hF, hS⟩
      have hk := hinv.1
      refine c_seq ?_
      refine c_seq ?_
      refine c_region ?_
      refine seq_yl hF (wn_none rfl) rfl rfl (yl_move hF rfl rfl) ?_
      clear hF; intro a hF
      refine seq_yl hF (wn_none rfl) rfl rfl (yl_move hF rfl rfl) ?_
      clear hF; intro a hF
      refine seq_yl hF (wn_none rfl) rfl rfl (yl_len hF rfl rfl (fun _ => run_lenRd sl23 (hS.rdRo 0 rfl))) ?_
      clear hF; intro a hF
      refine seq_yl hF (wn_none rfl) rfl rfl (yl_bin hF rfl rfl rfl rfl (fun _ => run_lss)) ?_
      clear hF; intro a hF
      refine wpList_nil ?_
      refine then_n ?_
      refine c_cond hF rfl (fun hc213 => ?_) (fun hc213 => ?_)
      · first | (replace hc213 := of_decide_eq_true hc213) | (replace hc213 := of_decide_eq_false (bnot_t hc213)) | (subst hc213) | (replace hc213 := bnot_t hc213; subst hc213) | (replace hc213 := bnot_t hc213) | skip
        refine wp_skip ?_
        refine then_n ?_
        refine c_seq ?_
        refine wp_block ?_
        refine c_seq ?_
        refine ha_startS hS [0, 1] 9 (by kernel_rfl) ?_; clear hS; intro w hS
        have hSS := hS.sub [0, 1] (by decide) rfl (by simp)
        refine ha_y 0 hF rfl rfl rfl (wn_none rfl) (.inr hSS) (yl_move hF rfl rfl) ?_
        clear hF; intro a hF
        refine ha_y 1 hF rfl rfl rfl (wn_none rfl) (.inr hSS) (yl_move hF rfl rfl) ?_
        clear hF; intro a hF
        have hlt_hx214 : k < (L).length := by first | omega | (simp; done) | (simp; omega)
        obtain ⟨ad215, rfl⟩ := rd_some (hS.rdRo 0 rfl) hlt_hx214
        obtain ⟨x214, hx214⟩ := get_some hlt_hx214
        refine ha_y 2 hF rfl rfl rfl (wn_none rfl) (.inr hSS) (yl_indexAddr hF rfl rfl rfl (fun _ => run_idx' sl23 sz39 (hS.rdRo 0 rfl) hlt_hx214)) ?_
        clear hF; intro a hF
        refine ha_y 4 hF rfl rfl rfl (wn_none rfl) (.inr hSS) (yl_move hF rfl rfl) ?_
        clear hF; intro a hF
        refine ha_y 5 hF rfl rfl rfl (wn_none rfl) (.inr hSS) (yl_move hF rfl rfl) ?_
        clear hF; intro a hF
        have hlt_hx216 : k < (M).length := by first | omega | (simp; done) | (simp; omega)
        obtain ⟨ad217, rfl⟩ := rd_some (hS.rdRo 1 rfl) hlt_hx216
        obtain ⟨x216, hx216⟩ := get_some hlt_hx216
        refine ha_y 6 hF rfl rfl rfl (wn_none rfl) (.inr hSS) (yl_indexAddr hF rfl rfl rfl (fun _ => run_idx' sl23 sz39 (hS.rdRo 1 rfl) hlt_hx216)) ?_
        clear hF; intro a hF
        refine ha_l 3 hF rfl rfl rfl (wn_none rfl) hSS (yl_loadEl (rs := [.int .i64 (x214.f0), .int .i64 (x214.f1), .int .i64 (x214.f2), .int .i64 (x214.f3), .string x214.f4, .bool x214.f5, .int .i64 (x214.f6), .int .i64 (x214.f7), .int .i64 (x214.f8), .int .i64 (x214.f9), .bool x214.f10, .int .i64 (x214.f11)]) hF rfl rfl ag39 sz39 rfl (fun _ h => rd_cells (enc := enc39) (Sat.rdRo h 0 rfl) enc39_len hx214)) ?_
        clear hF; intro a hF
        refine ha_l 7 hF rfl rfl rfl (wn_none rfl) hSS (yl_loadEl (rs := [.int .i64 (x216.f0), .int .i64 (x216.f1), .int .i64 (x216.f2), .int .i64 (x216.f3), .string x216.f4, .bool x216.f5, .int .i64 (x216.f6), .int .i64 (x216.f7), .int .i64 (x216.f8), .int .i64 (x216.f9), .bool x216.f10, .int .i64 (x216.f11)]) hF rfl rfl ag39 sz39 rfl (fun _ h => rd_cells (enc := enc39) (Sat.rdRo h 1 rfl) enc39_len hx216)) ?_
        clear hF; intro a hF
        refine ha_y 8 hF rfl rfl rfl (wn_none rfl) (.inr hSS) (yl_binA hF rfl rfl rfl (fun w => run_eqGuard_agg w _ _ _ _ _ _ hm39) (fun w => nes39 _ _ _ _ _ _ _ _ _ _ _ _ _ _ _ _ _ _ _ _ _ _ _ _ w)) ?_
        clear hF; intro a hF
        refine ha_done (by kernel_rfl) ?_ _
        refine then_n ?_
        refine c_cond hF rfl (fun hc218 => ?_) (fun hc218 => ?_)
        · first | (replace hc218 := of_decide_eq_true hc218) | (replace hc218 := of_decide_eq_false (bnot_t hc218)) | (subst hc218) | (replace hc218 := bnot_t hc218; subst hc218) | (replace hc218 := bnot_t hc218) | skip
          refine c_seq ?_
          refine c_region ?_
          refine seq_yl hF (wn_none rfl) rfl rfl (yl_assign hF rfl rfl) ?_
          clear hF; intro a hF
          refine wpList_nil ?_
          refine then_n ?_
          refine wp_ret ?_
          refine inb_r ?_
          refine then_r ?_
          refine then_r ?_
          refine inb_r ?_
          refine then_r ?_
          refine ret_t hF rfl rfl ?_
          exact ⟨_, rfl, congrArg Value.bool (dec_f (by rintro rfl; have h9 := hx216; rw [hx214] at h9; injection h9 with h9; subst h9; rename (¬ (_ ∧ _)) => hne; simp at hne)), (hS.sub [] (by decide) (by first | rfl | simp) (by simp))⟩
        · first | (replace hc218 := of_decide_eq_false hc218) | (replace hc218 := of_decide_eq_true (bnot_f hc218)) | (subst hc218) | (replace hc218 := bnot_f hc218; subst hc218) | (replace hc218 := bnot_f hc218) | skip
          refine wp_skip ?_
          refine inb_n ?_
          refine then_n ?_
          refine c_region ?_
          refine seq_yl hF (wn_none rfl) rfl rfl (yl_move hF rfl rfl) ?_
          clear hF; intro a hF
          refine seq_yl hF (wn_none rfl) rfl rfl (yl_bin hF rfl rfl rfl rfl (fun _ => run_inc (by omega))) ?_
          clear hF; intro a hF
          refine seq_yl hF (wn_none rfl) rfl rfl (yl_assign hF rfl rfl) ?_
          clear hF; intro a hF
          refine wpList_nil ?_
          refine then_n ?_
          exact ⟨_, (by omega), k + 1, rfl, ⟨by omega, take_eq_step hx214 hx216 (E39_ext (Decidable.not_not.1 (by assumption))) hinv.2⟩, hF.to [0, 1, 5] rfl, (hS.sub [0, 1] (by decide) (by first | rfl | simp) (by simp))⟩
      · first | (replace hc213 := of_decide_eq_false hc213) | (replace hc213 := of_decide_eq_true (bnot_f hc213)) | (subst hc213) | (replace hc213 := bnot_f hc213; subst hc213) | (replace hc213 := bnot_f hc213) | skip
        refine wp_exit ?_
        refine then_x ?_
        refine then_x ?_
        refine inb_x ?_
        refine then_n ?_
        refine c_seq ?_
        refine c_region ?_
        refine seq_yl hF (wn_none rfl) rfl rfl (yl_assign hF rfl rfl) ?_
        clear hF; intro a hF
        refine wpList_nil ?_
        refine then_n ?_
        refine wp_ret ?_
        refine ret_t hF rfl rfl ?_
        exact ⟨_, rfl, congrArg Value.bool (dec_t (by have h9 := hinv.2; rwa [List.take_of_length_le (by omega), List.take_of_length_le (by omega)] at h9)), (hS.sub [] (by decide) (by first | rfl | simp) (by simp))⟩

theorem few_any (qd qh qf : Int) (qL : List E39) (v : Value) (w0 : World) (hv : Rd w0 12 v (qL).length (cells enc39 (qL))) (hL : qL.length ≤ 9223372036854775807) :
    Fn Try.prog 25 #[.agg #[.int .i64 qd, .int .i64 qh, .int .i64 qf, v]] w0 (fun v w' => v = .bool (decide (qL.length ≤ 12)) ∧ Sat w0 w' []) := by
  obtain ⟨Av, cv, rfl⟩ := Rd.form hv
  refine c_enter (N := 7) (l := [_]) Try.func25 rfl rfl (fun a w hF hS => ?_)
  replace hS := hS.addRo hv
  refine c_seq ?_
  refine c_region ?_
  refine seq_wp (wn_none rfl) (wp_box (cs := #[_, _, _, _]) hF hS rfl rfl rfl rfl rfl ?_)
  clear hF hS; intro a w g219 hF hS
  refine seq_yl hF (wn_none rfl) rfl rfl (yl_assign hF rfl rfl) ?_
  clear hF; intro a hF
  refine wpList_nil ?_
  refine then_n ?_
  refine c_seq ?_
  refine c_region ?_
  refine seq_yl hF (wn_none rfl) rfl rfl (yl_fieldAddr hF rfl rfl (fun w => by kernel_rfl : ∀ w, (Instr.fieldAt 25 (.pointer (some ⟨g219, 0, none⟩)) 3).run Try.prog w = .ok (.pointer (some ⟨g219, 3, none⟩)) w)) ?_
  clear hF; intro a hF
  refine seq_yl hF (wn_none rfl) rfl rfl (yl_load (fun _ h => h ▸ hS) hF rfl rfl 0 rfl ag23 rfl) ?_
  clear hF; intro a hF
  refine seq_yl hF (wn_none rfl) rfl rfl (yl_len hF rfl rfl (fun _ => run_lenRd sl23 (hS.rdRo 1 rfl))) ?_
  clear hF; intro a hF
  refine seq_yl hF (wn_none rfl) rfl rfl (yl_bin hF rfl rfl rfl rfl (fun _ => run_leq)) ?_
  clear hF; intro a hF
  refine seq_yl hF (wn_none rfl) rfl rfl (yl_assign hF rfl rfl) ?_
  clear hF; intro a hF
  refine wpList_nil ?_
  refine then_n ?_
  refine wp_ret ?_
  refine ret_t hF rfl rfl ?_
  exact ⟨_, rfl, congrArg Value.bool (dec_d (by constructor <;> intro _ <;> omega)), (hS.sub [] (by decide) (by first | rfl | simp) (by simp))⟩

theorem sameQ_any (q r : Qu) (v u : Value) (w0 : World) (hv : Rd w0 12 v (q.L).length (cells enc39 (q.L))) (hu : Rd w0 12 u (r.L).length (cells enc39 (r.L))) (hL : q.L.length ≤ 1000000) :
    Fn Try.prog 18 #[.agg #[.int .i64 q.d, .int .i64 q.h, .int .i64 q.f, v], .agg #[.int .i64 r.d, .int .i64 r.h, .int .i64 r.f, u]] w0 (fun v w' => v = .bool (decide (q = r)) ∧ Sat w0 w' []) := by
  obtain ⟨Av, cv, rfl⟩ := Rd.form hv
  obtain ⟨Au, cu, rfl⟩ := Rd.form hu
  refine c_enter (N := 31) (l := [_, _]) Try.func18 rfl rfl (fun a w hF hS => ?_)
  replace hS := hS.addRo hu
  replace hS := hS.addRo hv
  refine c_seq ?_
  refine c_region ?_
  refine seq_wp (wn_none rfl) (wp_box (cs := #[_, _, _, _]) hF hS rfl rfl rfl rfl rfl ?_)
  clear hF hS; intro a w g220 hF hS
  refine seq_wp (wn_none rfl) (wp_box (cs := #[_, _, _, _]) hF hS rfl rfl rfl rfl rfl ?_)
  clear hF hS; intro a w g221 hF hS
  refine seq_yl hF (wn_none rfl) rfl rfl (yl_assign hF rfl rfl) ?_
  clear hF; intro a hF
  refine wpList_nil ?_
  refine then_n ?_
  refine c_seq ?_
  refine c_region ?_
  refine seq_yl hF (wn_none rfl) rfl rfl (yl_fieldAddr hF rfl rfl (fun w => by kernel_rfl : ∀ w, (Instr.fieldAt 25 (.pointer (some ⟨g220, 0, none⟩)) 0).run Try.prog w = .ok (.pointer (some ⟨g220, 0, none⟩)) w)) ?_
  clear hF; intro a hF
  refine seq_yl hF (wn_none rfl) rfl rfl (yl_load (fun _ h => h ▸ hS) hF rfl rfl 1 rfl ag3 rfl) ?_
  clear hF; intro a hF
  refine seq_yl hF (wn_none rfl) rfl rfl (yl_fieldAddr hF rfl rfl (fun w => by kernel_rfl : ∀ w, (Instr.fieldAt 25 (.pointer (some ⟨g221, 0, none⟩)) 0).run Try.prog w = .ok (.pointer (some ⟨g221, 0, none⟩)) w)) ?_
  clear hF; intro a hF
  refine seq_yl hF (wn_none rfl) rfl rfl (yl_load (fun _ h => h ▸ hS) hF rfl rfl 0 rfl ag3 rfl) ?_
  clear hF; intro a hF
  refine seq_yl hF (wn_none rfl) rfl rfl (yl_bin hF rfl rfl rfl rfl (fun _ => run_eql)) ?_
  clear hF; intro a hF
  refine seq_yl hF (wn_none rfl) rfl rfl (yl_move hF rfl rfl) ?_
  clear hF; intro a hF
  refine fr_split hF (fun hc222 hF => ?_) (fun hc222 hF => ?_)
  · first | (replace hc222 := of_decide_eq_true hc222) | (replace hc222 := of_decide_eq_false (bnot_t hc222)) | (subst hc222) | (replace hc222 := bnot_t hc222; subst hc222) | (replace hc222 := bnot_t hc222) | skip
    refine seq_yl hF (wn_t hF rfl rfl rfl rfl) rfl rfl (yl_fieldAddr hF rfl rfl (fun w => by kernel_rfl : ∀ w, (Instr.fieldAt 25 (.pointer (some ⟨g220, 0, none⟩)) 1).run Try.prog w = .ok (.pointer (some ⟨g220, 1, none⟩)) w)) ?_
    clear hF; intro a hF
    refine seq_yl hF (wn_t hF rfl rfl rfl rfl) rfl rfl (yl_load (fun _ h => h ▸ hS) hF rfl rfl 1 rfl ag3 rfl) ?_
    clear hF; intro a hF
    refine seq_yl hF (wn_t hF rfl rfl rfl rfl) rfl rfl (yl_fieldAddr hF rfl rfl (fun w => by kernel_rfl : ∀ w, (Instr.fieldAt 25 (.pointer (some ⟨g221, 0, none⟩)) 1).run Try.prog w = .ok (.pointer (some ⟨g221, 1, none⟩)) w)) ?_
    clear hF; intro a hF
    refine seq_yl hF (wn_t hF rfl rfl rfl rfl) rfl rfl (yl_load (fun _ h => h ▸ hS) hF rfl rfl 0 rfl ag3 rfl) ?_
    clear hF; intro a hF
    refine seq_yl hF (wn_t hF rfl rfl rfl rfl) rfl rfl (yl_bin hF rfl rfl rfl rfl (fun _ => run_eql)) ?_
    clear hF; intro a hF
    refine seq_yl hF (wn_none rfl) rfl rfl (yl_pick (u := _) (v := undef) hF rfl rfl (fun _ => rfl) (fun h => by cases h)) ?_
    clear hF; intro a hF
    refine seq_yl hF (wn_none rfl) rfl rfl (yl_move hF rfl rfl) ?_
    clear hF; intro a hF
    refine fr_split hF (fun hc223 hF => ?_) (fun hc223 hF => ?_)
    · first | (replace hc223 := of_decide_eq_true hc223) | (replace hc223 := of_decide_eq_false (bnot_t hc223)) | (subst hc223) | (replace hc223 := bnot_t hc223; subst hc223) | (replace hc223 := bnot_t hc223) | skip
      refine seq_yl hF (wn_t hF rfl rfl rfl rfl) rfl rfl (yl_fieldAddr hF rfl rfl (fun w => by kernel_rfl : ∀ w, (Instr.fieldAt 25 (.pointer (some ⟨g220, 0, none⟩)) 2).run Try.prog w = .ok (.pointer (some ⟨g220, 2, none⟩)) w)) ?_
      clear hF; intro a hF
      refine seq_yl hF (wn_t hF rfl rfl rfl rfl) rfl rfl (yl_load (fun _ h => h ▸ hS) hF rfl rfl 1 rfl ag3 rfl) ?_
      clear hF; intro a hF
      refine seq_yl hF (wn_t hF rfl rfl rfl rfl) rfl rfl (yl_fieldAddr hF rfl rfl (fun w => by kernel_rfl : ∀ w, (Instr.fieldAt 25 (.pointer (some ⟨g221, 0, none⟩)) 2).run Try.prog w = .ok (.pointer (some ⟨g221, 2, none⟩)) w)) ?_
      clear hF; intro a hF
      refine seq_yl hF (wn_t hF rfl rfl rfl rfl) rfl rfl (yl_load (fun _ h => h ▸ hS) hF rfl rfl 0 rfl ag3 rfl) ?_
      clear hF; intro a hF
      refine seq_yl hF (wn_t hF rfl rfl rfl rfl) rfl rfl (yl_bin hF rfl rfl rfl rfl (fun _ => run_eql)) ?_
      clear hF; intro a hF
      refine seq_yl hF (wn_none rfl) rfl rfl (yl_pick (u := _) (v := undef) hF rfl rfl (fun _ => rfl) (fun h => by cases h)) ?_
      clear hF; intro a hF
      refine seq_yl hF (wn_none rfl) rfl rfl (yl_move hF rfl rfl) ?_
      clear hF; intro a hF
      refine fr_split hF (fun hc224 hF => ?_) (fun hc224 hF => ?_)
      · first | (replace hc224 := of_decide_eq_true hc224) | (replace hc224 := of_decide_eq_false (bnot_t hc224)) | (subst hc224) | (replace hc224 := bnot_t hc224; subst hc224) | (replace hc224 := bnot_t hc224) | skip
        refine seq_yl hF (wn_t hF rfl rfl rfl rfl) rfl rfl (yl_fieldAddr hF rfl rfl (fun w => by kernel_rfl : ∀ w, (Instr.fieldAt 25 (.pointer (some ⟨g220, 0, none⟩)) 3).run Try.prog w = .ok (.pointer (some ⟨g220, 3, none⟩)) w)) ?_
        clear hF; intro a hF
        refine seq_yl hF (wn_t hF rfl rfl rfl rfl) rfl rfl (yl_load (fun _ h => h ▸ hS) hF rfl rfl 1 rfl ag23 rfl) ?_
        clear hF; intro a hF
        refine seq_yl hF (wn_t hF rfl rfl rfl rfl) rfl rfl (yl_fieldAddr hF rfl rfl (fun w => by kernel_rfl : ∀ w, (Instr.fieldAt 25 (.pointer (some ⟨g221, 0, none⟩)) 3).run Try.prog w = .ok (.pointer (some ⟨g221, 3, none⟩)) w)) ?_
        clear hF; intro a hF
        refine seq_yl hF (wn_t hF rfl rfl rfl rfl) rfl rfl (yl_load (fun _ h => h ▸ hS) hF rfl rfl 0 rfl ag23 rfl) ?_
        clear hF; intro a hF
        refine seq_wp (wn_t hF rfl rfl rfl rfl) (wp_call (vs := [_, _]) hF rfl rfl rfl rfl cf20 (sameC_any _ _ q.L r.L _ (hS.rdRo 2 rfl) (hS.rdRo 3 rfl) (by first | omega | (simp; done) | (simp; omega))) ?_)
        clear hF; rintro _ w ⟨rfl, hS1⟩ a hF
        replace hS := hS.callB hS1 rfl; clear hS1
        refine seq_yl hF (wn_none rfl) rfl rfl (yl_pick (u := _) (v := undef) hF rfl rfl (fun _ => rfl) (fun h => by cases h)) ?_
        clear hF; intro a hF
        refine seq_yl hF (wn_none rfl) rfl rfl (yl_assign hF rfl rfl) ?_
        clear hF; intro a hF
        refine wpList_nil ?_
        refine then_n ?_
        refine wp_ret ?_
        refine ret_t hF rfl rfl ?_
        exact ⟨_, rfl, congrArg Value.bool (dec_d (qu_eq (by assumption) (by assumption) (by assumption))), (hS.sub [] (by decide) (by first | rfl | simp) (by simp))⟩
      · first | (replace hc224 := of_decide_eq_false hc224) | (replace hc224 := of_decide_eq_true (bnot_f hc224)) | (subst hc224) | (replace hc224 := bnot_f hc224; subst hc224) | (replace hc224 := bnot_f hc224) | skip
        refine seq_skip hF (wn_f hF rfl rfl rfl rfl) rfl rfl ?_
        clear hF; intro a hF
        refine seq_skip hF (wn_f hF rfl rfl rfl rfl) rfl rfl ?_
        clear hF; intro a hF
        refine seq_skip hF (wn_f hF rfl rfl rfl rfl) rfl rfl ?_
        clear hF; intro a hF
        refine seq_skip hF (wn_f hF rfl rfl rfl rfl) rfl rfl ?_
        clear hF; intro a hF
        refine seq_skip hF (wn_f hF rfl rfl rfl rfl) rfl rfl ?_
        clear hF; intro a hF
        refine seq_yl hF (wn_none rfl) rfl rfl (yl_pick (u := _) (v := undef) hF rfl rfl (fun h => by cases h) (fun _ => rfl)) ?_
        clear hF; intro a hF
        refine seq_yl hF (wn_none rfl) rfl rfl (yl_assign hF rfl rfl) ?_
        clear hF; intro a hF
        refine wpList_nil ?_
        refine then_n ?_
        refine wp_ret ?_
        refine ret_t hF rfl rfl ?_
        exact ⟨_, rfl, congrArg Value.bool (dec_f (by rintro rfl; omega)), (hS.sub [] (by decide) (by first | rfl | simp) (by simp))⟩
    · first | (replace hc223 := of_decide_eq_false hc223) | (replace hc223 := of_decide_eq_true (bnot_f hc223)) | (subst hc223) | (replace hc223 := bnot_f hc223; subst hc223) | (replace hc223 := bnot_f hc223) | skip
      refine seq_skip hF (wn_f hF rfl rfl rfl rfl) rfl rfl ?_
      clear hF; intro a hF
      refine seq_skip hF (wn_f hF rfl rfl rfl rfl) rfl rfl ?_
      clear hF; intro a hF
      refine seq_skip hF (wn_f hF rfl rfl rfl rfl) rfl rfl ?_
      clear hF; intro a hF
      refine seq_skip hF (wn_f hF rfl rfl rfl rfl) rfl rfl ?_
      clear hF; intro a hF
      refine seq_skip hF (wn_f hF rfl rfl rfl rfl) rfl rfl ?_
      clear hF; intro a hF
      refine seq_yl hF (wn_none rfl) rfl rfl (yl_pick (u := _) (v := undef) hF rfl rfl (fun h => by cases h) (fun _ => rfl)) ?_
      clear hF; intro a hF
      refine seq_yl hF (wn_none rfl) rfl rfl (yl_move hF rfl rfl) ?_
      clear hF; intro a hF
      refine seq_skip hF (wn_f hF rfl rfl rfl rfl) rfl rfl ?_
      clear hF; intro a hF
      refine seq_skip hF (wn_f hF rfl rfl rfl rfl) rfl rfl ?_
      clear hF; intro a hF
      refine seq_skip hF (wn_f hF rfl rfl rfl rfl) rfl rfl ?_
      clear hF; intro a hF
      refine seq_skip hF (wn_f hF rfl rfl rfl rfl) rfl rfl ?_
      clear hF; intro a hF
      refine seq_skip hF (wn_f hF rfl rfl rfl rfl) rfl rfl ?_
      clear hF; intro a hF
      refine seq_yl hF (wn_none rfl) rfl rfl (yl_pick (u := _) (v := undef) hF rfl rfl (fun h => by cases h) (fun _ => rfl)) ?_
      clear hF; intro a hF
      refine seq_yl hF (wn_none rfl) rfl rfl (yl_assign hF rfl rfl) ?_
      clear hF; intro a hF
      refine wpList_nil ?_
      refine then_n ?_
      refine wp_ret ?_
      refine ret_t hF rfl rfl ?_
      exact ⟨_, rfl, congrArg Value.bool (dec_f (by rintro rfl; omega)), (hS.sub [] (by decide) (by first | rfl | simp) (by simp))⟩
  · first | (replace hc222 := of_decide_eq_false hc222) | (replace hc222 := of_decide_eq_true (bnot_f hc222)) | (subst hc222) | (replace hc222 := bnot_f hc222; subst hc222) | (replace hc222 := bnot_f hc222) | skip
    refine seq_skip hF (wn_f hF rfl rfl rfl rfl) rfl rfl ?_
    clear hF; intro a hF
    refine seq_skip hF (wn_f hF rfl rfl rfl rfl) rfl rfl ?_
    clear hF; intro a hF
    refine seq_skip hF (wn_f hF rfl rfl rfl rfl) rfl rfl ?_
    clear hF; intro a hF
    refine seq_skip hF (wn_f hF rfl rfl rfl rfl) rfl rfl ?_
    clear hF; intro a hF
    refine seq_skip hF (wn_f hF rfl rfl rfl rfl) rfl rfl ?_
    clear hF; intro a hF
    refine seq_yl hF (wn_none rfl) rfl rfl (yl_pick (u := _) (v := undef) hF rfl rfl (fun h => by cases h) (fun _ => rfl)) ?_
    clear hF; intro a hF
    refine seq_yl hF (wn_none rfl) rfl rfl (yl_move hF rfl rfl) ?_
    clear hF; intro a hF
    refine seq_skip hF (wn_f hF rfl rfl rfl rfl) rfl rfl ?_
    clear hF; intro a hF
    refine seq_skip hF (wn_f hF rfl rfl rfl rfl) rfl rfl ?_
    clear hF; intro a hF
    refine seq_skip hF (wn_f hF rfl rfl rfl rfl) rfl rfl ?_
    clear hF; intro a hF
    refine seq_skip hF (wn_f hF rfl rfl rfl rfl) rfl rfl ?_
    clear hF; intro a hF
    refine seq_skip hF (wn_f hF rfl rfl rfl rfl) rfl rfl ?_
    clear hF; intro a hF
    refine seq_yl hF (wn_none rfl) rfl rfl (yl_pick (u := _) (v := undef) hF rfl rfl (fun h => by cases h) (fun _ => rfl)) ?_
    clear hF; intro a hF
    refine seq_yl hF (wn_none rfl) rfl rfl (yl_move hF rfl rfl) ?_
    clear hF; intro a hF
    refine seq_skip hF (wn_f hF rfl rfl rfl rfl) rfl rfl ?_
    clear hF; intro a hF
    refine seq_skip hF (wn_f hF rfl rfl rfl rfl) rfl rfl ?_
    clear hF; intro a hF
    refine seq_skip hF (wn_f hF rfl rfl rfl rfl) rfl rfl ?_
    clear hF; intro a hF
    refine seq_skip hF (wn_f hF rfl rfl rfl rfl) rfl rfl ?_
    clear hF; intro a hF
    refine seq_skip hF (wn_f hF rfl rfl rfl rfl) rfl rfl ?_
    clear hF; intro a hF
    refine seq_yl hF (wn_none rfl) rfl rfl (yl_pick (u := _) (v := undef) hF rfl rfl (fun h => by cases h) (fun _ => rfl)) ?_
    clear hF; intro a hF
    refine seq_yl hF (wn_none rfl) rfl rfl (yl_assign hF rfl rfl) ?_
    clear hF; intro a hF
    refine wpList_nil ?_
    refine then_n ?_
    refine wp_ret ?_
    refine ret_t hF rfl rfl ?_
    exact ⟨_, rfl, congrArg Value.bool (dec_f (by rintro rfl; omega)), (hS.sub [] (by decide) (by first | rfl | simp) (by simp))⟩

end Go.Proofs.Ytjjjmpkmjicpbaa

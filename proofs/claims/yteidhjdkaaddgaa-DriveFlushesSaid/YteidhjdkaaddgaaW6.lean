/- walks, printed by wip/gen -/
import Derived.Test.YteidhjdkaaddgaaW4
namespace Go.Proofs.Yteidhjdkaaddgaa
open Go.RowKit
set_option linter.unusedVariables false
set_option linter.unusedSimpArgs false

set_option maxHeartbeats 1000000 in
set_option maxRecDepth 100000 in
theorem flush2_any (st : ByteArray) (lv : Value) (L : List E39) (rm : Int) (w0 : World) (hv : Rd w0 2 lv (L).length (cells enc39 (L))) (hz : (st.size : Int) ≤ 9223372036854775807) (hL : L.length ≤ 1000000) :
    Fn Try.prog 29 #[.agg #[.string st, lv, .int .i64 rm]] w0 (fun v w' => ∃ (st1 : ByteArray) (rm1 : Int) (lv1 : Value), v = .agg #[.string st1, lv1, .int .i64 rm1] ∧ flushF st L rm = (st1, rm1) ∧ EmptyV lv1 ∧ Sat w0 w' []) := by
  obtain ⟨Alv, clv, rfl⟩ := Rd.form hv
  refine c_enter (N := 17) (l := [_]) Try.func29 rfl rfl (fun a w hF hS => ?_)
  replace hS := hS.addRo hv
  refine c_seq ?_
  refine c_region ?_
  refine seq_wp (wn_none rfl) (wp_box (cs := #[_, _, _]) hF hS rfl rfl rfl rfl rfl ?_)
  clear hF hS; intro a w g195 hF hS
  refine seq_wp (wn_none rfl) (wp_alloc (cs := #[_, _, _]) hF hS rfl rfl rfl zr25 rfl ?_)
  clear hF hS; intro a w g196 hF hS
  refine wpList_nil ?_
  refine then_n ?_
  refine c_seq ?_
  refine c_seq ?_
  refine c_region ?_
  refine seq_yl hF (wn_none rfl) rfl rfl (yl_loadK (rs := [_, _, _]) (fun _ h => h ▸ hS) hF rfl rfl 1 rfl ag25 sz25 rfl rfl) ?_
  clear hF; intro a hF
  refine seq_wp (wn_none rfl) (wp_call (vs := [_]) hF rfl rfl rfl rfl cf27 (dValid2_any st _ L (rm) _ (hS.rdRo 2 rfl) (by first | omega | (simp; done)) (by first | omega | (simp; done))) ?_)
  clear hF; rintro _ w ⟨rfl, hS1⟩ a hF
  replace hS := hS.callB hS1 rfl; clear hS1
  refine seq_yl hF (wn_none rfl) rfl rfl (yl_un hF rfl rfl (fun _ => run_not)) ?_
  clear hF; intro a hF
  refine wpList_nil ?_
  refine then_n ?_
  refine c_cond hF rfl (fun hc197 => ?_) (fun hc197 => ?_)
  · first | (replace hc197 := of_decide_eq_true hc197) | (replace hc197 := of_decide_eq_false (bnot_t hc197)) | (subst hc197) | (replace hc197 := bnot_t hc197; subst hc197) | (replace hc197 := bnot_t hc197) | skip
    try (have hc197x := hc197; simp only [okS, okI, okW, okP] at hc197x)
    refine c_seq ?_
    refine c_region ?_
    refine seq_yl hF (wn_none rfl) rfl rfl (yl_build (parts := []) (vs := []) (cs := [_, _, _]) hF bd25 rfl rfl rfl rfl) ?_
    clear hF; intro a hF
    refine seq_wp (wn_none rfl) (wp_store (cs' := #[_, _, _]) hF hS rfl rfl rfl rfl 0 rfl sz25 (by simp [Value.cells, Value.oneCell']) (by simp [Value.cells]) rfl ?_)
    clear hF hS; intro a w hF hS
    refine wpList_nil ?_
    refine then_n ?_
    refine wp_ret ?_
    refine then_r ?_
    refine ret_c hF rfl (resC hS rfl 0 rfl ag25 sz25) ?_
    exact ⟨_, rfl, _, _, _, rfl, fl_bad (by assumption), EmptyV.nil, (hS.sub [] (by decide) (by first | rfl | simp) (by simp))⟩
  · first | (replace hc197 := of_decide_eq_false hc197) | (replace hc197 := of_decide_eq_true (bnot_f hc197)) | (subst hc197) | (replace hc197 := bnot_f hc197; subst hc197) | (replace hc197 := bnot_f hc197) | skip
    try (have hc197x := hc197; simp only [okS, okI, okW, okP] at hc197x)
    refine wp_skip ?_
    refine then_n ?_
    refine c_seq ?_
    refine wp_block ?_
    have hd9 : okD st L rm := by assumption
    refine c_loop (fun m a w => ∃ (st1 : ByteArray) (L1 : List E39) (AvW : Option Addr) (cvW : Nat), m = L1.length ∧ (okD st1 L1 rm ∧ flSt st L = flSt st1 L1) ∧ Fr 17 a [(1, .pointer (some ⟨g195, 0, none⟩)), (2, .pointer (some ⟨g196, 0, none⟩))] ∧ Sat w0 w (.box g195 25 #[.string st1, .slice AvW (L1).length cvW, .int .i64 (rm)] :: .box g196 25 #[.string (⟨#[]⟩ : ByteArray), .slice none 0 0, .int .i64 (0 : Int)] :: .ro 2 (.slice AvW (L1).length cvW) (L1).length (cells enc39 (L1)) :: [])) (L.length) ?_ ?_
    · exact ⟨st, L, Alv, clv, rfl, ⟨hd9, rfl⟩, hF.to [1, 2] rfl, (hS.sub [1, 0, 2] (by decide) (by first | rfl | simp) (by simp))⟩
    · clear hF hS; try clear hSS
      clear a w; rintro m a w ⟨st1, L1, AvW, cvW, rfl, hinv, hF, hS⟩
      obtain ⟨hd1, hfl⟩ := hinv
      have hd1i := okD_I hd1
      refine c_seq ?_
      refine c_seq ?_
      refine c_region ?_
      refine seq_yl hF (wn_none rfl) rfl rfl (yl_fieldAddr hF rfl rfl (fun w => by kernel_rfl : ∀ w, (Instr.fieldAt 25 (.pointer (some ⟨g195, 0, none⟩)) 1).run Try.prog w = .ok (.pointer (some ⟨g195, 1, none⟩)) w)) ?_
      clear hF; intro a hF
      refine seq_yl hF (wn_none rfl) rfl rfl (yl_load (fun _ h => h ▸ hS) hF rfl rfl 0 rfl ag23 rfl) ?_
      clear hF; intro a hF
      refine seq_yl hF (wn_none rfl) rfl rfl (yl_len hF rfl rfl (fun _ => run_lenRd sl23 (hS.rdRo 2 rfl))) ?_
      clear hF; intro a hF
      refine seq_yl hF (wn_none rfl) rfl rfl (yl_bin hF rfl rfl rfl rfl (fun _ => run_gtr)) ?_
      clear hF; intro a hF
      refine wpList_nil ?_
      refine then_n ?_
      refine c_cond hF rfl (fun hc198 => ?_) (fun hc198 => ?_)
      · first | (replace hc198 := of_decide_eq_true hc198) | (replace hc198 := of_decide_eq_false (bnot_t hc198)) | (subst hc198) | (replace hc198 := bnot_t hc198; subst hc198) | (replace hc198 := bnot_t hc198) | skip
        try (have hc198x := hc198; simp only [okS, okI, okW, okP] at hc198x)
        refine wp_skip ?_
        refine then_n ?_
        refine wp_block ?_
        refine c_region ?_
        refine seq_yl hF (wn_none rfl) rfl rfl (yl_loadK (rs := [_, _, _]) (fun _ h => h ▸ hS) hF rfl rfl 0 rfl ag25 sz25 rfl rfl) ?_
        clear hF; intro a hF
        refine seq_wp (wn_none rfl) (wp_call (vs := [_, _]) hF rfl rfl rfl rfl cf25 (dest2_any st1 _ L1 (rm) (0 : Int) _ (hS.rdRo 2 rfl) (by first | omega | (simp; done)) (by first | omega | (simp; done))) ?_)
        clear hF; rintro _ w ⟨st199, v200, Lq201, rm202, b203, rfl, hq204, hS1⟩ a hF
        replace hS := hS.callB hS1 rfl; clear hS1
        obtain ⟨Av200, cv200, rfl⟩ := hS.form 0 rfl
        have hq204b := destF_bd hq204
        obtain ⟨p205, hp205⟩ := get_some (L := L1) (k := 0) (by have h8 := okD_I hd1; omega)
        have h8 := (destF_at hd1 hp205).symm.trans hq204; injection h8 with e1 h8; injection h8 with e2 h8; injection h8 with e3 e4; subst e1 e2 e3 e4
        have hq204k := dest_ok hd1 hp205
        have hq204f := fl_step (st := st1) hp205
        have hq204n := len_selL (s := p205.f0) (old := (fun i => decide (i ≤ ((0 : Nat) : Int)))) L1 0
        refine seq_yl hF (wn_none rfl) rfl rfl (yl_move hF rfl rfl) ?_
        clear hF; intro a hF
        refine seq_yl hF (wn_none rfl) rfl rfl (yl_extract hF rfl rfl rfl) ?_
        clear hF; intro a hF
        refine seq_yl hF (wn_none rfl) rfl rfl (yl_extract hF rfl rfl rfl) ?_
        clear hF; intro a hF
        refine seq_wp (wn_none rfl) (wp_store (cs' := #[_, _, _]) hF hS rfl rfl rfl rfl 1 rfl sz25 (by simp [Value.cells, Value.oneCell']) (by simp [Value.cells]) rfl ?_)
        clear hF hS; intro a w hF hS
        refine wpList_nil ?_
        refine inb_n ?_
        refine then_n ?_
        replace hS := hS.toRo 0 rfl
        exact ⟨_, (by omega), (wim st1 p205.f0 p205.f1), (selL p205.f0 (fun i => decide (i ≤ ((0 : Nat) : Int))) 0 L1), Av200, cv200, rfl, ⟨hq204k.1, hfl.trans hq204f.1⟩, hF.to [1, 2] rfl, (hS.sub [1, 2, 0] (by decide) (by first | rfl | simp) (by simp))⟩
      · first | (replace hc198 := of_decide_eq_false hc198) | (replace hc198 := of_decide_eq_true (bnot_f hc198)) | (subst hc198) | (replace hc198 := bnot_f hc198; subst hc198) | (replace hc198 := bnot_f hc198) | skip
        try (have hc198x := hc198; simp only [okS, okI, okW, okP] at hc198x)
        refine wp_exit ?_
        refine then_x ?_
        refine then_x ?_
        refine inb_x ?_
        refine then_n ?_
        refine c_seq ?_
        refine c_region ?_
        refine seq_yl hF (wn_none rfl) rfl rfl (yl_loadK (rs := [_, _, _]) (fun _ h => h ▸ hS) hF rfl rfl 0 rfl ag25 sz25 rfl rfl) ?_
        clear hF; intro a hF
        refine seq_wp (wn_none rfl) (wp_store (cs' := #[_, _, _]) hF hS rfl rfl rfl rfl 1 rfl sz25 (by simp [Value.cells, Value.oneCell']) (by simp [Value.cells]) rfl ?_)
        clear hF hS; intro a w hF hS
        refine wpList_nil ?_
        refine then_n ?_
        refine wp_ret ?_
        refine ret_c hF rfl (resC hS rfl 1 rfl ag25 sz25) ?_
        exact ⟨_, rfl, _, _, _, rfl, flush_end hd9 hfl (by omega), EmptyV.of (hS.rdRo 2 rfl) (by omega), (hS.sub [] (by decide) (by first | rfl | simp) (by simp))⟩

set_option maxRecDepth 100000 in
theorem sameD_any (st : ByteArray) (lv : Value) (L : List E39) (rm : Int) (sb : ByteArray) (lb : Value) (M : List E39) (rb : Int) (w0 : World) (hv : Rd w0 2 lv (L).length (cells enc39 (L))) (hu : Rd w0 2 lb (M).length (cells enc39 (M))) (hL : L.length ≤ 1000000) (hM : M.length ≤ 1000000) :
    Fn Try.prog 28 #[.agg #[.string st, lv, .int .i64 rm], .agg #[.string sb, lb, .int .i64 rb]] w0 (fun v w' => v = .bool (decide (st = sb ∧ rm = rb ∧ L = M)) ∧ Sat w0 w' []) := by
  obtain ⟨Alv, clv, rfl⟩ := Rd.form hv
  obtain ⟨Alb, clb, rfl⟩ := Rd.form hu
  refine c_enter (N := 45) (l := [_, _]) Try.func28 rfl rfl (fun a w hF hS => ?_)
  replace hS := hS.addRo hu
  replace hS := hS.addRo hv
  refine c_seq ?_
  refine c_region ?_
  refine seq_wp (wn_none rfl) (wp_box (cs := #[_, _, _]) hF hS rfl rfl rfl rfl rfl ?_)
  clear hF hS; intro a w g206 hF hS
  refine seq_wp (wn_none rfl) (wp_box (cs := #[_, _, _]) hF hS rfl rfl rfl rfl rfl ?_)
  clear hF hS; intro a w g207 hF hS
  refine seq_yl hF (wn_none rfl) rfl rfl (yl_assign hF rfl rfl) ?_
  clear hF; intro a hF
  refine wpList_nil ?_
  refine then_n ?_
  refine c_seq ?_
  refine c_seq ?_
  refine c_region ?_
  refine seq_yl hF (wn_none rfl) rfl rfl (yl_fieldAddr hF rfl rfl (fun w => by kernel_rfl : ∀ w, (Instr.fieldAt 25 (.pointer (some ⟨g206, 0, none⟩)) 0).run Try.prog w = .ok (.pointer (some ⟨g206, 0, none⟩)) w)) ?_
  clear hF; intro a hF
  refine seq_yl hF (wn_none rfl) rfl rfl (yl_load (fun _ h => h ▸ hS) hF rfl rfl 1 rfl ag9 rfl) ?_
  clear hF; intro a hF
  refine seq_yl hF (wn_none rfl) rfl rfl (yl_fieldAddr hF rfl rfl (fun w => by kernel_rfl : ∀ w, (Instr.fieldAt 25 (.pointer (some ⟨g207, 0, none⟩)) 0).run Try.prog w = .ok (.pointer (some ⟨g207, 0, none⟩)) w)) ?_
  clear hF; intro a hF
  refine seq_yl hF (wn_none rfl) rfl rfl (yl_load (fun _ h => h ▸ hS) hF rfl rfl 0 rfl ag9 rfl) ?_
  clear hF; intro a hF
  refine seq_yl hF (wn_none rfl) rfl rfl (yl_bin hF rfl rfl rfl rfl (fun _ => run_str_neq)) ?_
  clear hF; intro a hF
  refine seq_yl hF (wn_none rfl) rfl rfl (yl_move hF rfl rfl) ?_
  clear hF; intro a hF
  refine fr_split hF (fun hc208 hF => ?_) (fun hc208 hF => ?_)
  · first | (replace hc208 := of_decide_eq_true hc208) | (replace hc208 := of_decide_eq_false (bnot_t hc208)) | (subst hc208) | (replace hc208 := bnot_t hc208; subst hc208) | (replace hc208 := bnot_t hc208) | skip
    try (have hc208x := hc208; simp only [okS, okI, okW, okP] at hc208x)
    refine seq_skip hF (wn_f hF rfl rfl rfl rfl) rfl rfl ?_
    clear hF; intro a hF
    refine seq_skip hF (wn_f hF rfl rfl rfl rfl) rfl rfl ?_
    clear hF; intro a hF
    refine seq_skip hF (wn_f hF rfl rfl rfl rfl) rfl rfl ?_
    clear hF; intro a hF
    refine seq_skip hF (wn_f hF rfl rfl rfl rfl) rfl rfl ?_
    clear hF; intro a hF
    refine seq_skip hF (wn_f hF rfl rfl rfl rfl) rfl rfl ?_
    clear hF; intro a hF
    refine seq_yl hF (wn_none rfl) rfl rfl (yl_pick (u := _) (v := undef) hF rfl rfl (fun _ => rfl) (fun h => by cases h)) ?_
    clear hF; intro a hF
    refine seq_yl hF (wn_none rfl) rfl rfl (yl_move hF rfl rfl) ?_
    clear hF; intro a hF
    refine seq_skip hF (wn_f hF rfl rfl rfl rfl) rfl rfl ?_
    clear hF; intro a hF
    refine seq_skip hF (wn_f hF rfl rfl rfl rfl) rfl rfl ?_
    clear hF; intro a hF
    refine seq_skip hF (wn_f hF rfl rfl rfl rfl) rfl rfl ?_
    clear hF; intro a hF
    refine seq_skip hF (wn_f hF rfl rfl rfl rfl) rfl rfl ?_
    clear hF; intro a hF
    refine seq_skip hF (wn_f hF rfl rfl rfl rfl) rfl rfl ?_
    clear hF; intro a hF
    refine seq_skip hF (wn_f hF rfl rfl rfl rfl) rfl rfl ?_
    clear hF; intro a hF
    refine seq_skip hF (wn_f hF rfl rfl rfl rfl) rfl rfl ?_
    clear hF; intro a hF
    refine seq_yl hF (wn_none rfl) rfl rfl (yl_pick (u := _) (v := undef) hF rfl rfl (fun _ => rfl) (fun h => by cases h)) ?_
    clear hF; intro a hF
    refine wpList_nil ?_
    refine then_n ?_
    refine c_cond_t hF rfl ?_
    refine c_seq ?_
    refine c_region ?_
    refine seq_yl hF (wn_none rfl) rfl rfl (yl_assign hF rfl rfl) ?_
    clear hF; intro a hF
    refine wpList_nil ?_
    refine then_n ?_
    refine wp_ret ?_
    refine then_r ?_
    refine ret_t hF rfl rfl ?_
    exact ⟨_, rfl, congrArg Value.bool (dec_f (by rintro ⟨h1, h2, h3⟩; first | exact absurd h1 (by assumption) | omega | (subst h3; omega))), (hS.sub [] (by decide) (by first | rfl | simp) (by simp))⟩
  · first | (replace hc208 := of_decide_eq_false hc208) | (replace hc208 := of_decide_eq_true (bnot_f hc208)) | (subst hc208) | (replace hc208 := bnot_f hc208; subst hc208) | (replace hc208 := bnot_f hc208) | skip
    try (have hc208x := hc208; simp only [okS, okI, okW, okP] at hc208x)
    refine seq_yl hF (wn_t hF rfl rfl rfl rfl) rfl rfl (yl_fieldAddr hF rfl rfl (fun w => by kernel_rfl : ∀ w, (Instr.fieldAt 25 (.pointer (some ⟨g206, 0, none⟩)) 2).run Try.prog w = .ok (.pointer (some ⟨g206, 2, none⟩)) w)) ?_
    clear hF; intro a hF
    refine seq_yl hF (wn_t hF rfl rfl rfl rfl) rfl rfl (yl_load (fun _ h => h ▸ hS) hF rfl rfl 1 rfl ag3 rfl) ?_
    clear hF; intro a hF
    refine seq_yl hF (wn_t hF rfl rfl rfl rfl) rfl rfl (yl_fieldAddr hF rfl rfl (fun w => by kernel_rfl : ∀ w, (Instr.fieldAt 25 (.pointer (some ⟨g207, 0, none⟩)) 2).run Try.prog w = .ok (.pointer (some ⟨g207, 2, none⟩)) w)) ?_
    clear hF; intro a hF
    refine seq_yl hF (wn_t hF rfl rfl rfl rfl) rfl rfl (yl_load (fun _ h => h ▸ hS) hF rfl rfl 0 rfl ag3 rfl) ?_
    clear hF; intro a hF
    refine seq_yl hF (wn_t hF rfl rfl rfl rfl) rfl rfl (yl_bin hF rfl rfl rfl rfl (fun _ => run_neq)) ?_
    clear hF; intro a hF
    refine seq_yl hF (wn_none rfl) rfl rfl (yl_pick (u := _) (v := undef) hF rfl rfl (fun h => by cases h) (fun _ => rfl)) ?_
    clear hF; intro a hF
    refine seq_yl hF (wn_none rfl) rfl rfl (yl_move hF rfl rfl) ?_
    clear hF; intro a hF
    refine fr_split hF (fun hc209 hF => ?_) (fun hc209 hF => ?_)
    · first | (replace hc209 := of_decide_eq_true hc209) | (replace hc209 := of_decide_eq_false (bnot_t hc209)) | (subst hc209) | (replace hc209 := bnot_t hc209; subst hc209) | (replace hc209 := bnot_t hc209) | skip
      try (have hc209x := hc209; simp only [okS, okI, okW, okP] at hc209x)
      refine seq_skip hF (wn_f hF rfl rfl rfl rfl) rfl rfl ?_
      clear hF; intro a hF
      refine seq_skip hF (wn_f hF rfl rfl rfl rfl) rfl rfl ?_
      clear hF; intro a hF
      refine seq_skip hF (wn_f hF rfl rfl rfl rfl) rfl rfl ?_
      clear hF; intro a hF
      refine seq_skip hF (wn_f hF rfl rfl rfl rfl) rfl rfl ?_
      clear hF; intro a hF
      refine seq_skip hF (wn_f hF rfl rfl rfl rfl) rfl rfl ?_
      clear hF; intro a hF
      refine seq_skip hF (wn_f hF rfl rfl rfl rfl) rfl rfl ?_
      clear hF; intro a hF
      refine seq_skip hF (wn_f hF rfl rfl rfl rfl) rfl rfl ?_
      clear hF; intro a hF
      refine seq_yl hF (wn_none rfl) rfl rfl (yl_pick (u := _) (v := undef) hF rfl rfl (fun _ => rfl) (fun h => by cases h)) ?_
      clear hF; intro a hF
      refine wpList_nil ?_
      refine then_n ?_
      refine c_cond_t hF rfl ?_
      refine c_seq ?_
      refine c_region ?_
      refine seq_yl hF (wn_none rfl) rfl rfl (yl_assign hF rfl rfl) ?_
      clear hF; intro a hF
      refine wpList_nil ?_
      refine then_n ?_
      refine wp_ret ?_
      refine then_r ?_
      refine ret_t hF rfl rfl ?_
      exact ⟨_, rfl, congrArg Value.bool (dec_f (by rintro ⟨h1, h2, h3⟩; first | exact absurd h1 (by assumption) | omega | (subst h3; omega))), (hS.sub [] (by decide) (by first | rfl | simp) (by simp))⟩
    · first | (replace hc209 := of_decide_eq_false hc209) | (replace hc209 := of_decide_eq_true (bnot_f hc209)) | (subst hc209) | (replace hc209 := bnot_f hc209; subst hc209) | (replace hc209 := bnot_f hc209) | skip
      try (have hc209x := hc209; simp only [okS, okI, okW, okP] at hc209x)
      refine seq_yl hF (wn_t hF rfl rfl rfl rfl) rfl rfl (yl_fieldAddr hF rfl rfl (fun w => by kernel_rfl : ∀ w, (Instr.fieldAt 25 (.pointer (some ⟨g206, 0, none⟩)) 1).run Try.prog w = .ok (.pointer (some ⟨g206, 1, none⟩)) w)) ?_
      clear hF; intro a hF
      refine seq_yl hF (wn_t hF rfl rfl rfl rfl) rfl rfl (yl_load (fun _ h => h ▸ hS) hF rfl rfl 1 rfl ag23 rfl) ?_
      clear hF; intro a hF
      refine seq_yl hF (wn_t hF rfl rfl rfl rfl) rfl rfl (yl_len hF rfl rfl (fun _ => run_lenRd sl23 (hS.rdRo 2 rfl))) ?_
      clear hF; intro a hF
      refine seq_yl hF (wn_t hF rfl rfl rfl rfl) rfl rfl (yl_fieldAddr hF rfl rfl (fun w => by kernel_rfl : ∀ w, (Instr.fieldAt 25 (.pointer (some ⟨g207, 0, none⟩)) 1).run Try.prog w = .ok (.pointer (some ⟨g207, 1, none⟩)) w)) ?_
      clear hF; intro a hF
      refine seq_yl hF (wn_t hF rfl rfl rfl rfl) rfl rfl (yl_load (fun _ h => h ▸ hS) hF rfl rfl 0 rfl ag23 rfl) ?_
      clear hF; intro a hF
      refine seq_yl hF (wn_t hF rfl rfl rfl rfl) rfl rfl (yl_len hF rfl rfl (fun _ => run_lenRd sl23 (hS.rdRo 3 rfl))) ?_
      clear hF; intro a hF
      refine seq_yl hF (wn_t hF rfl rfl rfl rfl) rfl rfl (yl_bin hF rfl rfl rfl rfl (fun _ => run_neq)) ?_
      clear hF; intro a hF
      refine seq_yl hF (wn_none rfl) rfl rfl (yl_pick (u := _) (v := undef) hF rfl rfl (fun h => by cases h) (fun _ => rfl)) ?_
      clear hF; intro a hF
      refine wpList_nil ?_
      refine then_n ?_
      refine c_cond hF rfl (fun hc210 => ?_) (fun hc210 => ?_)
      · first | (replace hc210 := of_decide_eq_true hc210) | (replace hc210 := of_decide_eq_false (bnot_t hc210)) | (subst hc210) | (replace hc210 := bnot_t hc210; subst hc210) | (replace hc210 := bnot_t hc210) | skip
        try (have hc210x := hc210; simp only [okS, okI, okW, okP] at hc210x)
        refine c_seq ?_
        refine c_region ?_
        refine seq_yl hF (wn_none rfl) rfl rfl (yl_assign hF rfl rfl) ?_
        clear hF; intro a hF
        refine wpList_nil ?_
        refine then_n ?_
        refine wp_ret ?_
        refine then_r ?_
        refine ret_t hF rfl rfl ?_
        exact ⟨_, rfl, congrArg Value.bool (dec_f (by rintro ⟨h1, h2, h3⟩; first | exact absurd h1 (by assumption) | omega | (subst h3; omega))), (hS.sub [] (by decide) (by first | rfl | simp) (by simp))⟩
      · first | (replace hc210 := of_decide_eq_false hc210) | (replace hc210 := of_decide_eq_true (bnot_f hc210)) | (subst hc210) | (replace hc210 := bnot_f hc210; subst hc210) | (replace hc210 := bnot_f hc210) | skip
        try (have hc210x := hc210; simp only [okS, okI, okW, okP] at hc210x)
        refine wp_skip ?_
        refine then_n ?_
        refine c_seq ?_
        refine c_seq ?_
        refine c_region ?_
        refine seq_yl hF (wn_none rfl) rfl rfl (yl_assign hF rfl rfl) ?_
        clear hF; intro a hF
        refine wpList_nil ?_
        refine then_n ?_
        refine wp_block ?_
        refine c_loop (fun m a w => ∃ (k : Nat), m = L.length - k ∧ (k ≤ L.length ∧ L.take k = M.take k) ∧ Fr 45 a [(2, .pointer (some ⟨g206, 0, none⟩)), (3, .pointer (some ⟨g207, 0, none⟩)), (5, .int .i64 ((k : Nat) : Int))] ∧ Sat w0 w (.box g206 25 #[.string st, .slice Alv (L).length clv, .int .i64 (rm)] :: .box g207 25 #[.string sb, .slice Alb (M).length clb, .int .i64 (rb)] :: .ro 2 (.slice Alv (L).length clv) (L).length (cells enc39 (L)) :: .ro 2 (.slice Alb (M).length clb) (M).length (cells enc39 (M)) :: [])) (L.length - 0) ?_ ?_
        · exact ⟨0, rfl, ⟨Nat.zero_le _, by simp⟩, hF.to [2, 3, 5] rfl, (hS.sub [1, 0, 2, 3] (by decide) (by first | rfl | simp) (by simp))⟩
        · clear hF hS; try clear hSS
          clear a w; rintro m a w ⟨k, rfl, hinv, hF, hS⟩
          have hk := hinv.1
          refine c_seq ?_
          refine c_seq ?_
          refine c_region ?_
          refine seq_yl hF (wn_none rfl) rfl rfl (yl_move hF rfl rfl) ?_
          clear hF; intro a hF
          refine seq_yl hF (wn_none rfl) rfl rfl (yl_fieldAddr hF rfl rfl (fun w => by kernel_rfl : ∀ w, (Instr.fieldAt 25 (.pointer (some ⟨g206, 0, none⟩)) 1).run Try.prog w = .ok (.pointer (some ⟨g206, 1, none⟩)) w)) ?_
          clear hF; intro a hF
          refine seq_yl hF (wn_none rfl) rfl rfl (yl_load (fun _ h => h ▸ hS) hF rfl rfl 0 rfl ag23 rfl) ?_
          clear hF; intro a hF
          refine seq_yl hF (wn_none rfl) rfl rfl (yl_len hF rfl rfl (fun _ => run_lenRd sl23 (hS.rdRo 2 rfl))) ?_
          clear hF; intro a hF
          refine seq_yl hF (wn_none rfl) rfl rfl (yl_bin hF rfl rfl rfl rfl (fun _ => run_lss)) ?_
          clear hF; intro a hF
          refine wpList_nil ?_
          refine then_n ?_
          refine c_cond hF rfl (fun hc211 => ?_) (fun hc211 => ?_)
          · first | (replace hc211 := of_decide_eq_true hc211) | (replace hc211 := of_decide_eq_false (bnot_t hc211)) | (subst hc211) | (replace hc211 := bnot_t hc211; subst hc211) | (replace hc211 := bnot_t hc211) | skip
            try (have hc211x := hc211; simp only [okS, okI, okW, okP] at hc211x)
            refine wp_skip ?_
            refine then_n ?_
            refine c_seq ?_
            refine wp_block ?_
            refine c_seq ?_
            refine ha_startS hS [0, 2, 1, 3] 11 (by kernel_rfl) ?_; clear hS; intro w hS
            have hSS := hS.sub [0, 2, 1, 3] (by decide) rfl (by simp)
            refine ha_y 0 hF rfl rfl rfl (wn_none rfl) (.inr hSS) (yl_fieldAddr hF rfl rfl (fun w => by kernel_rfl : ∀ w, (Instr.fieldAt 25 (.pointer (some ⟨g206, 0, none⟩)) 1).run Try.prog w = .ok (.pointer (some ⟨g206, 1, none⟩)) w)) ?_
            clear hF; intro a hF
            refine ha_y 2 hF rfl rfl rfl (wn_none rfl) (.inr hSS) (yl_move hF rfl rfl) ?_
            clear hF; intro a hF
            refine ha_y 5 hF rfl rfl rfl (wn_none rfl) (.inr hSS) (yl_fieldAddr hF rfl rfl (fun w => by kernel_rfl : ∀ w, (Instr.fieldAt 25 (.pointer (some ⟨g207, 0, none⟩)) 1).run Try.prog w = .ok (.pointer (some ⟨g207, 1, none⟩)) w)) ?_
            clear hF; intro a hF
            refine ha_y 7 hF rfl rfl rfl (wn_none rfl) (.inr hSS) (yl_move hF rfl rfl) ?_
            clear hF; intro a hF
            refine ha_l 1 hF rfl rfl rfl (wn_none rfl) hSS (yl_load (fun _ h => h) hF rfl rfl 0 rfl ag23 rfl) ?_
            clear hF; intro a hF
            have hlt_hx212 : k < (L).length := by first | omega | (simp; done) | (simp; omega)
            obtain ⟨ad213, rfl⟩ := rd_some (hS.rdRo 2 rfl) hlt_hx212
            obtain ⟨x212, hx212⟩ := get_some hlt_hx212
            refine ha_y 3 hF rfl rfl rfl (wn_none rfl) (.inr hSS) (yl_indexAddr hF rfl rfl rfl (fun _ => run_idx' sl23 sz39 (hS.rdRo 2 rfl) hlt_hx212)) ?_
            clear hF; intro a hF
            refine ha_l 4 hF rfl rfl rfl (wn_none rfl) hSS (yl_loadEl (rs := [.int .i64 (x212.f0), .string x212.f1]) hF rfl rfl ag39 sz39 rfl (fun _ h => rd_cells (enc := enc39) (Sat.rdRo h 1 rfl) enc39_len hx212)) ?_
            clear hF; intro a hF
            refine ha_l 6 hF rfl rfl rfl (wn_none rfl) hSS (yl_load (fun _ h => h) hF rfl rfl 2 rfl ag23 rfl) ?_
            clear hF; intro a hF
            have hlt_hx214 : k < (M).length := by first | omega | (simp; done) | (simp; omega)
            obtain ⟨ad215, rfl⟩ := rd_some (hS.rdRo 3 rfl) hlt_hx214
            obtain ⟨x214, hx214⟩ := get_some hlt_hx214
            refine ha_y 8 hF rfl rfl rfl (wn_none rfl) (.inr hSS) (yl_indexAddr hF rfl rfl rfl (fun _ => run_idx' sl23 sz39 (hS.rdRo 3 rfl) hlt_hx214)) ?_
            clear hF; intro a hF
            refine ha_l 9 hF rfl rfl rfl (wn_none rfl) hSS (yl_loadEl (rs := [.int .i64 (x214.f0), .string x214.f1]) hF rfl rfl ag39 sz39 rfl (fun _ h => rd_cells (enc := enc39) (Sat.rdRo h 3 rfl) enc39_len hx214)) ?_
            clear hF; intro a hF
            refine ha_y 10 hF rfl rfl rfl (wn_none rfl) (.inr hSS) (yl_binA hF rfl rfl rfl (fun w => run_eqGuard_agg w _ _ _ _ _ _ hm39) (fun w => nes39 _ _ _ _ w)) ?_
            clear hF; intro a hF
            refine ha_done (by kernel_rfl) ?_ _
            refine then_n ?_
            refine c_cond hF rfl (fun hc216 => ?_) (fun hc216 => ?_)
            · first | (replace hc216 := of_decide_eq_true hc216) | (replace hc216 := of_decide_eq_false (bnot_t hc216)) | (subst hc216) | (replace hc216 := bnot_t hc216; subst hc216) | (replace hc216 := bnot_t hc216) | skip
              try (have hc216x := hc216; simp only [okS, okI, okW, okP] at hc216x)
              refine c_seq ?_
              refine c_region ?_
              refine seq_yl hF (wn_none rfl) rfl rfl (yl_assign hF rfl rfl) ?_
              clear hF; intro a hF
              refine wpList_nil ?_
              refine then_n ?_
              refine wp_ret ?_
              refine inb_r ?_
              refine then_r ?_
              refine then_r ?_
              refine inb_r ?_
              refine then_r ?_
              refine ret_t hF rfl rfl ?_
              exact ⟨_, rfl, congrArg Value.bool (dec_f (by rintro ⟨-, -, h9⟩; subst h9; have h9 := hx214; rw [hx212] at h9; injection h9 with h9; subst h9; rename (¬ (_ ∧ _)) => hne; simp at hne)), (hS.sub [] (by decide) (by first | rfl | simp) (by simp))⟩
            · first | (replace hc216 := of_decide_eq_false hc216) | (replace hc216 := of_decide_eq_true (bnot_f hc216)) | (subst hc216) | (replace hc216 := bnot_f hc216; subst hc216) | (replace hc216 := bnot_f hc216) | skip
              try (have hc216x := hc216; simp only [okS, okI, okW, okP] at hc216x)
              refine wp_skip ?_
              refine inb_n ?_
              refine then_n ?_
              refine c_region ?_
              refine seq_yl hF (wn_none rfl) rfl rfl (yl_move hF rfl rfl) ?_
              clear hF; intro a hF
              refine seq_yl hF (wn_none rfl) rfl rfl (yl_bin hF rfl rfl rfl rfl (fun _ => run_inc (by omega))) ?_
              clear hF; intro a hF
              refine seq_yl hF (wn_none rfl) rfl rfl (yl_assign hF rfl rfl) ?_
              clear hF; intro a hF
              refine wpList_nil ?_
              refine then_n ?_
              exact ⟨_, (by omega), k + 1, rfl, ⟨by omega, take_eq_step hx212 hx214 (E39_ext (Decidable.not_not.1 (by assumption))) hinv.2⟩, hF.to [2, 3, 5] rfl, (hS.sub [0, 1, 2, 3] (by decide) (by first | rfl | simp) (by simp))⟩
          · first | (replace hc211 := of_decide_eq_false hc211) | (replace hc211 := of_decide_eq_true (bnot_f hc211)) | (subst hc211) | (replace hc211 := bnot_f hc211; subst hc211) | (replace hc211 := bnot_f hc211) | skip
            try (have hc211x := hc211; simp only [okS, okI, okW, okP] at hc211x)
            refine wp_exit ?_
            refine then_x ?_
            refine then_x ?_
            refine inb_x ?_
            refine then_n ?_
            refine c_seq ?_
            refine c_region ?_
            refine seq_yl hF (wn_none rfl) rfl rfl (yl_assign hF rfl rfl) ?_
            clear hF; intro a hF
            refine wpList_nil ?_
            refine then_n ?_
            refine wp_ret ?_
            refine ret_t hF rfl rfl ?_
            exact ⟨_, rfl, congrArg Value.bool (dec_t ⟨Decidable.not_not.1 (by assumption), by omega, by have h9 := hinv.2; rwa [List.take_of_length_le (by omega), List.take_of_length_le (by omega)] at h9⟩), (hS.sub [] (by decide) (by first | rfl | simp) (by simp))⟩

end Go.Proofs.Yteidhjdkaaddgaa

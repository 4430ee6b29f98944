/- walks, printed by wip/gen -/
import Derived.Test.YtlhcpeolkkadbaaW4
namespace Go.Proofs.Ytlhcpeolkkadbaa
open Go.RowKit
set_option linter.unusedVariables false
set_option linter.unusedSimpArgs false

set_option maxHeartbeats 1000000 in
set_option maxRecDepth 100000 in
theorem flush2_any (st : ByteArray) (lv : Value) (L : List E59) (rm : Int) (w0 : World) (hv : Rd w0 2 lv (L).length (cells enc59 (L))) (hz : (st.size : Int) ≤ 9223372036854775807) (hL : L.length ≤ 1000000) :
    Fn Try.prog 28 #[.agg #[.string st, lv, .int .i64 rm]] w0 (fun v w' => ∃ (st1 : ByteArray) (rm1 : Int) (lv1 : Value), v = .agg #[.string st1, lv1, .int .i64 rm1] ∧ flushF st L rm = (st1, rm1) ∧ EmptyV lv1 ∧ Sat w0 w' []) := by
  obtain ⟨Alv, clv, rfl⟩ := Rd.form hv
  refine c_enter (N := 17) (l := [_]) Try.func28 rfl rfl (fun a w hF hS => ?_)
  replace hS := hS.addRo hv
  refine c_seq ?_
  refine c_region ?_
  refine seq_wp (wn_none rfl) (wp_box (cs := #[_, _, _]) hF hS rfl rfl rfl rfl rfl ?_)
  clear hF hS; intro a w g181 hF hS
  refine seq_wp (wn_none rfl) (wp_alloc (cs := #[_, _, _]) hF hS rfl rfl rfl zr24 rfl ?_)
  clear hF hS; intro a w g182 hF hS
  refine wpList_nil ?_
  refine then_n ?_
  refine c_seq ?_
  refine c_seq ?_
  refine c_region ?_
  refine seq_yl hF (wn_none rfl) rfl rfl (yl_loadK (rs := [_, _, _]) (fun _ h => h ▸ hS) hF rfl rfl 1 rfl ag24 sz24 rfl rfl) ?_
  clear hF; intro a hF
  refine seq_wp (wn_none rfl) (wp_call (vs := [_]) hF rfl rfl rfl rfl cf49 (dValid2_any st _ L (rm) _ (hS.rdRo 2 rfl) (by first | omega | (simp; done)) (by first | omega | (simp; done))) ?_)
  clear hF; rintro _ w ⟨rfl, hS1⟩ a hF
  replace hS := hS.callB hS1 rfl; clear hS1
  refine seq_yl hF (wn_none rfl) rfl rfl (yl_un hF rfl rfl (fun _ => run_not)) ?_
  clear hF; intro a hF
  refine wpList_nil ?_
  refine then_n ?_
  refine c_cond hF rfl (fun hc183 => ?_) (fun hc183 => ?_)
  · first | (replace hc183 := of_decide_eq_true hc183) | (replace hc183 := of_decide_eq_false (bnot_t hc183)) | (subst hc183) | (replace hc183 := bnot_t hc183; subst hc183) | (replace hc183 := bnot_t hc183) | skip
    try (have hc183x := hc183; simp only [okS, okI, okW, okP] at hc183x)
    refine c_seq ?_
    refine c_region ?_
    refine seq_yl hF (wn_none rfl) rfl rfl (yl_build (parts := []) (vs := []) (cs := [_, _, _]) hF bd24 rfl rfl rfl rfl) ?_
    clear hF; intro a hF
    refine seq_wp (wn_none rfl) (wp_store (cs' := #[_, _, _]) hF hS rfl rfl rfl rfl 0 rfl sz24 (by simp [Value.cells, Value.oneCell']) (by simp [Value.cells]) rfl ?_)
    clear hF hS; intro a w hF hS
    refine wpList_nil ?_
    refine then_n ?_
    refine wp_ret ?_
    refine then_r ?_
    refine ret_c hF rfl (resC hS rfl 0 rfl ag24 sz24) ?_
    exact ⟨_, rfl, _, _, _, rfl, fl_bad (by assumption), EmptyV.nil, (hS.sub [] (by decide) (by first | rfl | simp) (by simp))⟩
  · first | (replace hc183 := of_decide_eq_false hc183) | (replace hc183 := of_decide_eq_true (bnot_f hc183)) | (subst hc183) | (replace hc183 := bnot_f hc183; subst hc183) | (replace hc183 := bnot_f hc183) | skip
    try (have hc183x := hc183; simp only [okS, okI, okW, okP] at hc183x)
    refine wp_skip ?_
    refine then_n ?_
    refine c_seq ?_
    refine wp_block ?_
    have hd9 : okD st L rm := by assumption
    refine c_loop (fun m a w => ∃ (st1 : ByteArray) (L1 : List E59) (AvW : Option Addr) (cvW : Nat), m = L1.length ∧ (okD st1 L1 rm ∧ flSt st L = flSt st1 L1) ∧ Fr 17 a [(1, .pointer (some ⟨g181, 0, none⟩)), (2, .pointer (some ⟨g182, 0, none⟩))] ∧ Sat w0 w (.box g181 24 #[.string st1, .slice AvW (L1).length cvW, .int .i64 (rm)] :: .box g182 24 #[.string (⟨#[]⟩ : ByteArray), .slice none 0 0, .int .i64 (0 : Int)] :: .ro 2 (.slice AvW (L1).length cvW) (L1).length (cells enc59 (L1)) :: [])) (L.length) ?_ ?_
    · exact ⟨st, L, Alv, clv, rfl, ⟨hd9, rfl⟩, hF.to [1, 2] rfl, (hS.sub [1, 0, 2] (by decide) (by first | rfl | simp) (by simp))⟩
    · clear hF hS; try clear hSS
      clear a w; rintro m a w ⟨st1, L1, AvW, cvW, rfl, hinv, hF, hS⟩
      obtain ⟨hd1, hfl⟩ := hinv
      have hd1i := okD_I hd1
      refine c_seq ?_
      refine c_seq ?_
      refine c_region ?_
      refine seq_yl hF (wn_none rfl) rfl rfl (yl_fieldAddr hF rfl rfl (fun w => by kernel_rfl : ∀ w, (Instr.fieldAt 24 (.pointer (some ⟨g181, 0, none⟩)) 1).run Try.prog w = .ok (.pointer (some ⟨g181, 1, none⟩)) w)) ?_
      clear hF; intro a hF
      refine seq_yl hF (wn_none rfl) rfl rfl (yl_load (fun _ h => h ▸ hS) hF rfl rfl 0 rfl ag22 rfl) ?_
      clear hF; intro a hF
      refine seq_yl hF (wn_none rfl) rfl rfl (yl_len hF rfl rfl (fun _ => run_lenRd sl22 (hS.rdRo 2 rfl))) ?_
      clear hF; intro a hF
      refine seq_yl hF (wn_none rfl) rfl rfl (yl_bin hF rfl rfl rfl rfl (fun _ => run_gtr)) ?_
      clear hF; intro a hF
      refine wpList_nil ?_
      refine then_n ?_
      refine c_cond hF rfl (fun hc184 => ?_) (fun hc184 => ?_)
      · first | (replace hc184 := of_decide_eq_true hc184) | (replace hc184 := of_decide_eq_false (bnot_t hc184)) | (subst hc184) | (replace hc184 := bnot_t hc184; subst hc184) | (replace hc184 := bnot_t hc184) | skip
        try (have hc184x := hc184; simp only [okS, okI, okW, okP] at hc184x)
        refine wp_skip ?_
        refine then_n ?_
        refine wp_block ?_
        refine c_region ?_
        refine seq_yl hF (wn_none rfl) rfl rfl (yl_loadK (rs := [_, _, _]) (fun _ h => h ▸ hS) hF rfl rfl 0 rfl ag24 sz24 rfl rfl) ?_
        clear hF; intro a hF
        refine seq_wp (wn_none rfl) (wp_call (vs := [_, _]) hF rfl rfl rfl rfl cf32 (dest2_any st1 _ L1 (rm) (0 : Int) _ (hS.rdRo 2 rfl) (by first | omega | (simp; done)) (by first | omega | (simp; done))) ?_)
        clear hF; rintro _ w ⟨st185, v186, Lq187, rm188, b189, rfl, hq190, hS1⟩ a hF
        replace hS := hS.callB hS1 rfl; clear hS1
        obtain ⟨Av186, cv186, rfl⟩ := hS.form 0 rfl
        have hq190b := destF_bd hq190
        obtain ⟨p191, hp191⟩ := get_some (L := L1) (k := 0) (by have h8 := okD_I hd1; omega)
        have h8 := (destF_at hd1 hp191).symm.trans hq190; injection h8 with e1 h8; injection h8 with e2 h8; injection h8 with e3 e4; subst e1 e2 e3 e4
        have hq190k := dest_ok hd1 hp191
        have hq190f := fl_step (st := st1) hp191
        have hq190n := len_selL (s := p191.f0) (old := (fun i => decide (i ≤ ((0 : Nat) : Int)))) L1 0
        refine seq_yl hF (wn_none rfl) rfl rfl (yl_move hF rfl rfl) ?_
        clear hF; intro a hF
        refine seq_yl hF (wn_none rfl) rfl rfl (yl_extract hF rfl rfl rfl) ?_
        clear hF; intro a hF
        refine seq_yl hF (wn_none rfl) rfl rfl (yl_extract hF rfl rfl rfl) ?_
        clear hF; intro a hF
        refine seq_wp (wn_none rfl) (wp_store (cs' := #[_, _, _]) hF hS rfl rfl rfl rfl 1 rfl sz24 (by simp [Value.cells, Value.oneCell']) (by simp [Value.cells]) rfl ?_)
        clear hF hS; intro a w hF hS
        refine wpList_nil ?_
        refine inb_n ?_
        refine then_n ?_
        replace hS := hS.toRo 0 rfl
        exact ⟨_, (by omega), (wim st1 p191.f0 p191.f1), (selL p191.f0 (fun i => decide (i ≤ ((0 : Nat) : Int))) 0 L1), Av186, cv186, rfl, ⟨hq190k.1, hfl.trans hq190f.1⟩, hF.to [1, 2] rfl, (hS.sub [1, 2, 0] (by decide) (by first | rfl | simp) (by simp))⟩
      · first | (replace hc184 := of_decide_eq_false hc184) | (replace hc184 := of_decide_eq_true (bnot_f hc184)) | (subst hc184) | (replace hc184 := bnot_f hc184; subst hc184) | (replace hc184 := bnot_f hc184) | skip
        try (have hc184x := hc184; simp only [okS, okI, okW, okP] at hc184x)
        refine wp_exit ?_
        refine then_x ?_
        refine then_x ?_
        refine inb_x ?_
        refine then_n ?_
        refine c_seq ?_
        refine c_region ?_
        refine seq_yl hF (wn_none rfl) rfl rfl (yl_loadK (rs := [_, _, _]) (fun _ h => h ▸ hS) hF rfl rfl 0 rfl ag24 sz24 rfl rfl) ?_
        clear hF; intro a hF
        refine seq_wp (wn_none rfl) (wp_store (cs' := #[_, _, _]) hF hS rfl rfl rfl rfl 1 rfl sz24 (by simp [Value.cells, Value.oneCell']) (by simp [Value.cells]) rfl ?_)
        clear hF hS; intro a w hF hS
        refine wpList_nil ?_
        refine then_n ?_
        refine wp_ret ?_
        refine ret_c hF rfl (resC hS rfl 1 rfl ag24 sz24) ?_
        exact ⟨_, rfl, _, _, _, rfl, flush_end hd9 hfl (by omega), EmptyV.of (hS.rdRo 2 rfl) (by omega), (hS.sub [] (by decide) (by first | rfl | simp) (by simp))⟩

end Go.Proofs.Ytlhcpeolkkadbaa

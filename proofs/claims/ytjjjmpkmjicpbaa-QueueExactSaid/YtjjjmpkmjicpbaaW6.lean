/- walks, printed by wip/gen -/
import Derived.Test.YtjjjmpkmjicpbaaW3
import Derived.Test.YtjjjmpkmjicpbaaP2
namespace Go.Proofs.Ytjjjmpkmjicpbaa
open Go.RowKit
set_option linter.unusedVariables false
set_option linter.unusedSimpArgs false

theorem deleteC_any (w0 w : World) (Ht : List Chunk) (Av : Option Addr) (cv : Nat) (L : List E39) (i : Nat) (hS : Sat w0 w (.row 39 12 (.slice Av L.length cv) (L).length (cells enc39 (L)) :: Ht)) (hi : i < L.length) (hL : L.length ≤ 1000000) :
    Fn Try.prog 37 #[.slice Av L.length cv, .int .i64 ((i : Nat) : Int), .int .i64 (((i + 1) : Nat) : Int)] w (fun v w' => ∃ v1, v = v1 ∧ Sat w0 w' (.row 39 12 v1 (L.take i ++ L.drop (i + 1)).length (cells enc39 (L.take i ++ L.drop (i + 1))) :: Ht)) := by
  obtain ⟨ad, rfl⟩ := rd_some (hS.rdRow 0 rfl) hi
  refine c_enterS (N := 33) (l := [_, _, _]) Try.func37 rfl rfl (fun a hF => ?_)
  refine c_seq ?_
  refine c_region ?_
  refine seq_yl hF (wn_none rfl) rfl rfl (yl_assign hF rfl rfl) ?_
  clear hF; intro a hF
  refine wpList_nil ?_
  refine then_n ?_
  refine c_seq ?_
  refine c_region ?_
  refine seq_yl hF (wn_none rfl) rfl rfl (yl_move hF rfl rfl) ?_
  clear hF; intro a hF
  refine seq_yl hF (wn_none rfl) rfl rfl (yl_move hF rfl rfl) ?_
  clear hF; intro a hF
  refine seq_yl hF (wn_none rfl) rfl rfl (yl_move hF rfl rfl) ?_
  clear hF; intro a hF
  refine seq_yl hF (wn_none rfl) rfl rfl (yl_move hF rfl rfl) ?_
  clear hF; intro a hF
  refine seq_yl hF (wn_none rfl) rfl rfl (yl_len hF rfl rfl (fun _ => run_lenRd sl23 (hS.rdRow 0 rfl))) ?_
  clear hF; intro a hF
  have hcap185 := (hS.rdRow 0 rfl).cap
  refine seq_yl hF (wn_none rfl) rfl rfl (yl_sliceLHM (lo := i) (hi := (i + 1)) (mx := (L).length) hF rfl rfl rfl rfl rfl sl23 sz39 (by first | omega | (simp at *; omega)) (by first | omega | (simp at *; omega)) (by first | omega | (simp at *; omega))) ?_
  clear hF; intro a hF
  refine wpList_nil ?_
  refine then_n ?_
  refine c_seq ?_
  refine c_seq ?_
  refine c_region ?_
  refine seq_yl hF (wn_none rfl) rfl rfl (yl_move hF rfl rfl) ?_
  clear hF; intro a hF
  refine seq_yl hF (wn_none rfl) rfl rfl (yl_move hF rfl rfl) ?_
  clear hF; intro a hF
  refine seq_yl hF (wn_none rfl) rfl rfl (yl_bin hF rfl rfl rfl rfl (fun _ => run_eql)) ?_
  clear hF; intro a hF
  replace hF := fr_set (b' := false) hF (by rw [decide_eq_false_iff_not]; omega)
  refine wpList_nil ?_
  refine then_n ?_
  refine c_cond_f hF rfl ?_
  refine wp_skip ?_
  refine then_n ?_
  refine c_seq ?_
  refine c_region ?_
  refine seq_yl hF (wn_none rfl) rfl rfl (yl_move hF rfl rfl) ?_
  clear hF; intro a hF
  refine seq_yl hF (wn_none rfl) rfl rfl (yl_len hF rfl rfl (fun _ => run_lenRd sl23 (hS.rdRow 0 rfl))) ?_
  clear hF; intro a hF
  refine seq_yl hF (wn_none rfl) rfl rfl (yl_assign hF rfl rfl) ?_
  clear hF; intro a hF
  refine wpList_nil ?_
  refine then_n ?_
  refine c_seq ?_
  refine ha_startS hS [] 8 (by kernel_rfl) ?_; clear hS; intro w hS
  have hSS := hS.sub [] (by decide) rfl (by simp)
  refine ha_y 0 hF rfl rfl rfl (wn_none rfl) (.inr hSS) (yl_move hF rfl rfl) ?_
  clear hF; intro a hF
  refine ha_y 1 hF rfl rfl rfl (wn_none rfl) (.inr hSS) (yl_move hF rfl rfl) ?_
  clear hF; intro a hF
  have hcap186 := (hS.rdRow 0 rfl).cap
  refine ha_y 2 hF rfl rfl rfl (wn_none rfl) (.inr hSS) (yl_slicePre (hi := i) hF rfl rfl rfl sl23 sz39 (by first | omega | (simp at *; omega))) ?_
  clear hF; intro a hF
  refine ha_y 3 hF rfl rfl rfl (wn_none rfl) (.inr hSS) (yl_move hF rfl rfl) ?_
  clear hF; intro a hF
  refine ha_y 4 hF rfl rfl rfl (wn_none rfl) (.inr hSS) (yl_move hF rfl rfl) ?_
  clear hF; intro a hF
  have hcap187 := (hS.rdRow 0 rfl).cap
  refine ha_y 5 hF rfl rfl rfl (wn_none rfl) (.inr hSS) (yl_sliceSuf (lo := (i + 1)) hF rfl rfl rfl sl23 sz39 (by first | omega | (simp at *; omega)) (by first | omega | (simp at *; omega))) ?_
  clear hF; intro a hF
  have hsrc := (rd_suf (L := L) (lo := (i + 1)) (hS.rdRow 0 rfl) enc39_len (by first | omega | (simp at *; omega)))
  have hcap := (hS.rdRow 0 rfl).cap
  replace hS := hS.cut 0 rfl enc39_len (hi := i) (by first | omega | (simp at *; omega))
  refine ha_one 6 (by kernel_rfl) rfl (wn_none rfl) (wp_appIn (enc := enc39) (m := i) hF hS rfl rfl rfl rfl rfl 0 rfl sl23 sz39 hsrc enc39_len enc39_one (by first | omega | (simp at *; omega)) ?_)
  clear hF hS; intro a w hF hS
  replace hSS := hS.sub [] (by decide) rfl (by simp)
  refine ⟨.inr hSS, ?_⟩
  refine ha_y 7 hF rfl rfl rfl (wn_none rfl) (.inr hSS) (yl_assign hF rfl rfl) ?_
  clear hF; intro a hF
  refine ha_done (by kernel_rfl) ?_ _
  refine then_n ?_
  refine c_seq ?_
  refine c_region ?_
  refine seq_yl hF (wn_none rfl) rfl rfl (yl_move hF rfl rfl) ?_
  clear hF; intro a hF
  refine seq_yl hF (wn_none rfl) rfl rfl (yl_move hF rfl rfl) ?_
  clear hF; intro a hF
  refine seq_yl hF (wn_none rfl) rfl rfl (yl_len hF rfl rfl (fun _ => run_lenRd sl23 (hS.rdRow 0 rfl))) ?_
  clear hF; intro a hF
  refine seq_yl hF (wn_none rfl) rfl rfl (yl_move hF rfl rfl) ?_
  clear hF; intro a hF
  have hcap189 := (hS.rdRow 0 rfl).cap
  refine seq_yl hF (wn_none rfl) rfl rfl (yl_sliceLH (lo := (((L.take i) ++ (L.drop (i + 1)))).length) (hi := (L).length) hF rfl rfl rfl rfl sl23 sz39 (by first | omega | (simp at *; omega)) (by first | omega | (simp at *; omega))) ?_
  clear hF; intro a hF
  refine seq_wp (wn_none rfl) (wp_clearT (enc := enc39) (k := (L).length - (((L.take i) ++ (L.drop (i + 1)))).length) hF hS rfl rfl rfl (by first | rfl | (simp; omega)) 0 rfl sl23 zr39 rfl (by simp [Value.cells, Value.oneCell']) (by first | omega | (simp at *; omega)) ?_)
  clear hF hS; intro a w hF hS
  refine wpList_nil ?_
  refine then_n ?_
  refine c_seq ?_
  refine c_region ?_
  refine seq_yl hF (wn_none rfl) rfl rfl (yl_move hF rfl rfl) ?_
  clear hF; intro a hF
  refine seq_yl hF (wn_none rfl) rfl rfl (yl_assign hF rfl rfl) ?_
  clear hF; intro a hF
  refine wpList_nil ?_
  refine then_n ?_
  refine wp_ret ?_
  refine ret_t hF rfl rfl ?_
  exact ⟨_, rfl, _, rfl, (hS.subT 1 [0] (by decide) (by first | rfl | simp) (by simp) (by simp))⟩

theorem take_any (qd qh qf : Int) (qL : List E39) (n : Int) (v : Value) (w0 : World) (hv : Rd w0 12 v (qL).length (cells enc39 (qL))) (hL : qL.length ≤ 1000000) :
    Fn Try.prog 21 #[.agg #[.int .i64 qd, .int .i64 qh, .int .i64 qf, v], .int .i64 n] w0 (fun v w' => ∃ (v1 : Value) (L1 : List E39) (x : E39) (b : Bool), v = .tuple #[.agg #[.int .i64 qd, .int .i64 qh, .int .i64 qf, v1], .agg #[.int .i64 x.f0, .int .i64 x.f1, .int .i64 x.f2, .int .i64 x.f3, .string x.f4, .bool x.f5, .int .i64 x.f6, .int .i64 x.f7, .int .i64 x.f8, .int .i64 x.f9, .bool x.f10, .int .i64 x.f11], .bool b] ∧ takeF qL n = (L1, x, b) ∧ Sat w0 w' [.row 39 12 v1 (L1).length (cells enc39 (L1))]) := by
  obtain ⟨Av, cv, rfl⟩ := Rd.form hv
  refine c_enter (N := 35) (l := [_, _]) Try.func21 rfl rfl (fun a w hF hS => ?_)
  replace hS := hS.addRo hv
  refine c_seq ?_
  refine c_region ?_
  refine seq_wp (wn_none rfl) (wp_box (cs := #[_, _, _, _]) hF hS rfl rfl rfl rfl rfl ?_)
  clear hF hS; intro a w g190 hF hS
  refine seq_wp (wn_none rfl) (wp_box (cs := #[_]) hF hS rfl rfl rfl rfl rfl ?_)
  clear hF hS; intro a w g191 hF hS
  refine seq_wp (wn_none rfl) (wp_alloc (cs := #[_, _, _, _]) hF hS rfl rfl rfl zr25 rfl ?_)
  clear hF hS; intro a w g192 hF hS
  refine seq_wp (wn_none rfl) (wp_alloc (cs := #[_, _, _, _, _, _, _, _, _, _, _, _]) hF hS rfl rfl rfl zr39 rfl ?_)
  clear hF hS; intro a w g193 hF hS
  refine seq_yl hF (wn_none rfl) rfl rfl (yl_assign hF rfl rfl) ?_
  clear hF; intro a hF
  refine wpList_nil ?_
  refine then_n ?_
  refine c_seq ?_
  refine c_region ?_
  refine seq_yl hF (wn_none rfl) rfl rfl (yl_fieldAddr hF rfl rfl (fun w => by kernel_rfl : ∀ w, (Instr.fieldAt 25 (.pointer (some ⟨g190, 0, none⟩)) 3).run Try.prog w = .ok (.pointer (some ⟨g190, 3, none⟩)) w)) ?_
  clear hF; intro a hF
  refine seq_yl hF (wn_none rfl) rfl rfl (yl_load (fun _ h => h ▸ hS) hF rfl rfl 3 rfl ag23 rfl) ?_
  clear hF; intro a hF
  refine seq_wp (wn_none rfl) (wp_call (vs := [_]) hF rfl rfl rfl rfl cf32 (cloneC_any _ _ _ (hS.rdRo 4 rfl) (by first | omega | (simp; done) | (simp; omega))) ?_)
  clear hF; rintro _ w ⟨v194, rfl, hS1⟩ a hF
  replace hS := hS.callB hS1 rfl; clear hS1
  obtain ⟨Av194, cv194, rfl⟩ := hS.form 0 rfl
  refine seq_yl hF (wn_none rfl) rfl rfl (yl_fieldAddr hF rfl rfl (fun w => by kernel_rfl : ∀ w, (Instr.fieldAt 25 (.pointer (some ⟨g190, 0, none⟩)) 3).run Try.prog w = .ok (.pointer (some ⟨g190, 3, none⟩)) w)) ?_
  clear hF; intro a hF
  refine seq_wp (wn_none rfl) (wp_store (cs' := #[_, _, _, _]) hF hS rfl rfl rfl rfl 4 rfl sz23 (by simp [Value.cells, Value.oneCell']) (by simp [Value.cells]) rfl ?_)
  clear hF hS; intro a w hF hS
  refine wpList_nil ?_
  refine then_n ?_
  refine c_seq ?_
  refine c_region ?_
  refine seq_yl hF (wn_none rfl) rfl rfl (yl_fieldAddr hF rfl rfl (fun w => by kernel_rfl : ∀ w, (Instr.fieldAt 25 (.pointer (some ⟨g190, 0, none⟩)) 3).run Try.prog w = .ok (.pointer (some ⟨g190, 3, none⟩)) w)) ?_
  clear hF; intro a hF
  refine seq_yl hF (wn_none rfl) rfl rfl (yl_load (fun _ h => h ▸ hS) hF rfl rfl 4 rfl ag23 rfl) ?_
  clear hF; intro a hF
  refine seq_yl hF (wn_none rfl) rfl rfl (yl_makeFunc (vs := [_]) hF rfl rfl) ?_
  clear hF; intro a hF
  refine seq_wp (wn_none rfl) (wp_call (vs := [_, _]) hF rfl rfl rfl rfl cf35 (indexC_any (k := 36) (caps := [.pointer (some ⟨g191, 0, none⟩)]) (p := (fun x : E39 => decide (x.f0 = (n)))) _ _ _ qL cf36 (fun x w h => clTake _ _ _ 3 g191 (n) rfl x h) (fun w h => Sat.rdRow h 0 rfl) hS (by first | omega | (simp; done) | (simp; omega))) ?_)
  clear hF hS; rintro _ w ⟨rfl, hS⟩ a hF
  refine seq_yl hF (wn_none rfl) rfl rfl (yl_assign hF rfl rfl) ?_
  clear hF; intro a hF
  refine wpList_nil ?_
  refine then_n ?_
  refine c_seq ?_
  refine c_seq ?_
  refine c_region ?_
  refine seq_yl hF (wn_none rfl) rfl rfl (yl_move hF rfl rfl) ?_
  clear hF; intro a hF
  refine seq_yl hF (wn_none rfl) rfl rfl (yl_bin hF rfl rfl rfl rfl (fun _ => run_lss)) ?_
  clear hF; intro a hF
  refine wpList_nil ?_
  refine then_n ?_
  refine c_cond hF rfl (fun hc195 => ?_) (fun hc195 => ?_)
  · first | (replace hc195 := of_decide_eq_true hc195) | (replace hc195 := of_decide_eq_false (bnot_t hc195)) | (subst hc195) | (replace hc195 := bnot_t hc195; subst hc195) | (replace hc195 := bnot_t hc195) | skip
    refine c_seq ?_
    refine c_region ?_
    refine seq_yl hF (wn_none rfl) rfl rfl (yl_loadK (rs := [_, _, _, _]) (fun _ h => h ▸ hS) hF rfl rfl 4 rfl ag25 sz25 rfl rfl) ?_
    clear hF; intro a hF
    refine seq_yl hF (wn_none rfl) rfl rfl (yl_build (parts := []) (vs := []) (cs := [_, _, _, _, _, _, _, _, _, _, _, _]) hF bd39 rfl rfl rfl rfl) ?_
    clear hF; intro a hF
    refine seq_wp (wn_none rfl) (wp_store (cs' := #[_, _, _, _]) hF hS rfl rfl rfl rfl 2 rfl sz25 (by simp [Value.cells, Value.oneCell']) (by simp [Value.cells]) rfl ?_)
    clear hF hS; intro a w hF hS
    refine seq_wp (wn_none rfl) (wp_store (cs' := #[_, _, _, _, _, _, _, _, _, _, _, _]) hF hS rfl rfl rfl rfl 1 rfl sz39 (by simp [Value.cells, Value.oneCell']) (by simp [Value.cells]) rfl ?_)
    clear hF hS; intro a w hF hS
    refine seq_yl hF (wn_none rfl) rfl rfl (yl_assign hF rfl rfl) ?_
    clear hF; intro a hF
    refine wpList_nil ?_
    refine then_n ?_
    refine wp_ret ?_
    refine then_r ?_
    refine ret_cct hF rfl (resC hS rfl 2 rfl ag25 sz25) (resC hS rfl 1 rfl ag39 sz39) rfl ?_
    exact ⟨_, rfl, _, _, zeroE, _, rfl, take_no (by omega), (hS.sub [0] (by decide) (by first | rfl | simp) (by simp))⟩
  · first | (replace hc195 := of_decide_eq_false hc195) | (replace hc195 := of_decide_eq_true (bnot_f hc195)) | (subst hc195) | (replace hc195 := bnot_f hc195; subst hc195) | (replace hc195 := bnot_f hc195) | skip
    refine wp_skip ?_
    refine then_n ?_
    refine c_seq ?_
    refine c_region ?_
    rcases idxF_cases (fun x : E39 => decide (x.f0 = n)) qL with ⟨k0, x0, hk0, hx0, hp0, hb0⟩ | ⟨hk0, _⟩; rotate_left; · omega
    have hk0l := (List.getElem?_eq_some_iff.1 hx0).1
    refine seq_yl hF (wn_none rfl) rfl rfl (yl_fieldAddr hF rfl rfl (fun w => by kernel_rfl : ∀ w, (Instr.fieldAt 25 (.pointer (some ⟨g190, 0, none⟩)) 3).run Try.prog w = .ok (.pointer (some ⟨g190, 3, none⟩)) w)) ?_
    clear hF; intro a hF
    refine seq_yl hF (wn_none rfl) rfl rfl (yl_load (fun _ h => h ▸ hS) hF rfl rfl 4 rfl ag23 rfl) ?_
    clear hF; intro a hF
    refine seq_yl hF (wn_none rfl) rfl rfl (yl_move hF rfl rfl) ?_
    clear hF; intro a hF
    replace hF := fr_seti (b' := ((k0 : Nat) : Int)) hF (hk0)
    have hlt_hx196 : k0 < (qL).length := by first | omega | (simp; done) | (simp; omega)
    obtain ⟨ad197, rfl⟩ := rd_some (hS.rdRow 0 rfl) hlt_hx196
    obtain ⟨x196, hx196⟩ := get_some hlt_hx196
    refine seq_yl hF (wn_none rfl) rfl rfl (yl_indexAddr hF rfl rfl rfl (fun _ => run_idx' sl23 sz39 (hS.rdRow 0 rfl) hlt_hx196)) ?_
    clear hF; intro a hF
    refine seq_yl hF (wn_none rfl) rfl rfl (yl_loadEl (rs := [.int .i64 (x196.f0), .int .i64 (x196.f1), .int .i64 (x196.f2), .int .i64 (x196.f3), .string x196.f4, .bool x196.f5, .int .i64 (x196.f6), .int .i64 (x196.f7), .int .i64 (x196.f8), .int .i64 (x196.f9), .bool x196.f10, .int .i64 (x196.f11)]) hF rfl rfl ag39 sz39 rfl (fun _ h => rd_cells (enc := enc39) (by subst h; exact hS.rdRow 0 rfl) enc39_len hx196)) ?_
    clear hF; intro a hF
    refine seq_wp (wn_none rfl) (wp_alloc (cs := #[_, _, _, _, _, _, _, _, _, _, _, _]) hF hS rfl rfl rfl zr39 rfl ?_)
    clear hF hS; intro a w g198 hF hS
    refine seq_wp (wn_none rfl) (wp_store (cs' := #[_, _, _, _, _, _, _, _, _, _, _, _]) hF hS rfl rfl rfl rfl 0 rfl sz39 (by simp [Value.cells, Value.oneCell']) (by simp [Value.cells]) rfl ?_)
    clear hF hS; intro a w hF hS
    refine wpList_nil ?_
    refine then_n ?_
    refine c_seq ?_
    refine c_region ?_
    refine seq_yl hF (wn_none rfl) rfl rfl (yl_fieldAddr hF rfl rfl (fun w => by kernel_rfl : ∀ w, (Instr.fieldAt 25 (.pointer (some ⟨g190, 0, none⟩)) 3).run Try.prog w = .ok (.pointer (some ⟨g190, 3, none⟩)) w)) ?_
    clear hF; intro a hF
    refine seq_yl hF (wn_none rfl) rfl rfl (yl_load (fun _ h => h ▸ hS) hF rfl rfl 5 rfl ag23 rfl) ?_
    clear hF; intro a hF
    refine seq_yl hF (wn_none rfl) rfl rfl (yl_move hF rfl rfl) ?_
    clear hF; intro a hF
    replace hF := fr_seti (b' := ((k0 : Nat) : Int)) hF (hk0)
    refine seq_yl hF (wn_none rfl) rfl rfl (yl_move hF rfl rfl) ?_
    clear hF; intro a hF
    replace hF := fr_seti (b' := ((k0 : Nat) : Int)) hF (hk0)
    refine seq_yl hF (wn_none rfl) rfl rfl (yl_bin hF rfl rfl rfl rfl (fun _ => run_inc (by omega))) ?_
    clear hF; intro a hF
    replace hS := (hS.sub [1, 0, 2, 3, 4, 5, 6] (by decide) (by first | rfl | simp) (by simp))
    refine seq_wp (wn_none rfl) (wp_call (vs := [_, _, _]) hF rfl rfl rfl rfl cf37 (deleteC_any _ _ _ _ _ qL k0 hS (by first | omega | (simp; done) | (simp; omega)) (by first | omega | (simp; done) | (simp; omega))) ?_)
    clear hF; rintro _ w ⟨v199, rfl, hS1⟩ a hF; replace hS := hS1; clear hS1
    obtain ⟨Av199, cv199, rfl⟩ := hS.form 0 rfl
    refine seq_yl hF (wn_none rfl) rfl rfl (yl_fieldAddr hF rfl rfl (fun w => by kernel_rfl : ∀ w, (Instr.fieldAt 25 (.pointer (some ⟨g190, 0, none⟩)) 3).run Try.prog w = .ok (.pointer (some ⟨g190, 3, none⟩)) w)) ?_
    clear hF; intro a hF
    refine seq_wp (wn_none rfl) (wp_store (cs' := #[_, _, _, _]) hF hS rfl rfl rfl rfl 5 rfl sz23 (by simp [Value.cells, Value.oneCell']) (by simp [Value.cells]) rfl ?_)
    clear hF hS; intro a w hF hS
    refine wpList_nil ?_
    refine then_n ?_
    refine c_seq ?_
    refine ha_startS hS [5, 1] 5 (by kernel_rfl) ?_; clear hS; intro w hS
    have hSS := hS.sub [5, 1] (by decide) rfl (by simp)
    refine ha_l 0 hF rfl rfl rfl (wn_none rfl) hSS (yl_loadK (rs := [_, _, _, _]) (fun _ h => h) hF rfl rfl 0 rfl ag25 sz25 rfl rfl) ?_
    clear hF; intro a hF
    refine ha_l 1 hF rfl rfl rfl (wn_none rfl) hSS (yl_loadK (rs := [_, _, _, _, _, _, _, _, _, _, _, _]) (fun _ h => h) hF rfl rfl 1 rfl ag39 sz39 rfl rfl) ?_
    clear hF; intro a hF
    refine ha_one 2 (by kernel_rfl) rfl (wn_none rfl) (wp_store (cs' := #[_, _, _, _]) hF hS rfl rfl rfl rfl 3 rfl sz25 (by simp [Value.cells, Value.oneCell']) (by simp [Value.cells]) rfl ?_)
    clear hF hS; intro a w hF hS
    replace hSS := hS.sub [5, 1] (by decide) rfl (by simp)
    refine ⟨.inr hSS, ?_⟩
    refine ha_one 3 (by kernel_rfl) rfl (wn_none rfl) (wp_store (cs' := #[_, _, _, _, _, _, _, _, _, _, _, _]) hF hS rfl rfl rfl rfl 2 rfl sz39 (by simp [Value.cells, Value.oneCell']) (by simp [Value.cells]) rfl ?_)
    clear hF hS; intro a w hF hS
    replace hSS := hS.sub [5, 1] (by decide) rfl (by simp)
    refine ⟨.inr hSS, ?_⟩
    refine ha_y 4 hF rfl rfl rfl (wn_none rfl) (.inr hSS) (yl_assign hF rfl rfl) ?_
    clear hF; intro a hF
    refine ha_done (by kernel_rfl) ?_ _
    refine then_n ?_
    refine wp_ret ?_
    refine ret_cct hF rfl (resC hS rfl 3 rfl ag25 sz25) (resC hS rfl 2 rfl ag39 sz39) rfl ?_
    exact ⟨_, rfl, _, _, x196, _, rfl, take_yes hk0 (by assumption), (hS.sub [0] (by decide) (by first | rfl | simp) (by simp))⟩

theorem take2_any (qd qh qf : Int) (qL : List E39) (n : Int) (v : Value) (w0 : World) (hv : Rd w0 12 v (qL).length (cells enc39 (qL))) (hL : qL.length ≤ 1000000) :
    Fn Try.prog 24 #[.agg #[.int .i64 qd, .int .i64 qh, .int .i64 qf, v], .int .i64 n] w0 (fun v w' => ∃ (v1 : Value) (L1 : List E39) (x : E39) (b : Bool), v = .tuple #[.agg #[.int .i64 qd, .int .i64 qh, .int .i64 qf, v1], .agg #[.int .i64 x.f0, .int .i64 x.f1, .int .i64 x.f2, .int .i64 x.f3, .string x.f4, .bool x.f5, .int .i64 x.f6, .int .i64 x.f7, .int .i64 x.f8, .int .i64 x.f9, .bool x.f10, .int .i64 x.f11], .bool b] ∧ takeF qL n = (L1, x, b) ∧ Sat w0 w' [.row 39 12 v1 (L1).length (cells enc39 (L1))]) := by
  obtain ⟨Av, cv, rfl⟩ := Rd.form hv
  refine c_enter (N := 40) (l := [_, _]) Try.func24 rfl rfl (fun a w hF hS => ?_)
  replace hS := hS.addRo hv
  refine c_seq ?_
  refine c_region ?_
  refine seq_wp (wn_none rfl) (wp_box (cs := #[_, _, _, _]) hF hS rfl rfl rfl rfl rfl ?_)
  clear hF hS; intro a w g200 hF hS
  refine seq_wp (wn_none rfl) (wp_alloc (cs := #[_, _, _, _]) hF hS rfl rfl rfl zr25 rfl ?_)
  clear hF hS; intro a w g201 hF hS
  refine seq_wp (wn_none rfl) (wp_alloc (cs := #[_, _, _, _, _, _, _, _, _, _, _, _]) hF hS rfl rfl rfl zr39 rfl ?_)
  clear hF hS; intro a w g202 hF hS
  refine seq_yl hF (wn_none rfl) rfl rfl (yl_assign hF rfl rfl) ?_
  clear hF; intro a hF
  refine wpList_nil ?_
  refine then_n ?_
  refine c_seq ?_
  refine c_region ?_
  refine seq_yl hF (wn_none rfl) rfl rfl (yl_fieldAddr hF rfl rfl (fun w => by kernel_rfl : ∀ w, (Instr.fieldAt 25 (.pointer (some ⟨g200, 0, none⟩)) 3).run Try.prog w = .ok (.pointer (some ⟨g200, 3, none⟩)) w)) ?_
  clear hF; intro a hF
  refine seq_yl hF (wn_none rfl) rfl rfl (yl_load (fun _ h => h ▸ hS) hF rfl rfl 2 rfl ag23 rfl) ?_
  clear hF; intro a hF
  refine seq_yl hF (wn_none rfl) rfl rfl (yl_move hF rfl rfl) ?_
  clear hF; intro a hF
  refine seq_wp (wn_none rfl) (wp_call (vs := [_, _]) hF rfl rfl rfl rfl cf42 (find_any _ qL (n) _ (hS.rdRo 3 rfl) (by first | omega | (simp; done) | (simp; omega))) ?_)
  clear hF; rintro _ w ⟨rfl, hS1⟩ a hF
  replace hS := hS.callB hS1 rfl; clear hS1
  refine seq_yl hF (wn_none rfl) rfl rfl (yl_assign hF rfl rfl) ?_
  clear hF; intro a hF
  refine wpList_nil ?_
  refine then_n ?_
  refine c_seq ?_
  refine c_seq ?_
  refine c_region ?_
  refine seq_yl hF (wn_none rfl) rfl rfl (yl_move hF rfl rfl) ?_
  clear hF; intro a hF
  refine seq_yl hF (wn_none rfl) rfl rfl (yl_bin hF rfl rfl rfl rfl (fun _ => run_lss)) ?_
  clear hF; intro a hF
  refine wpList_nil ?_
  refine then_n ?_
  refine c_cond hF rfl (fun hc203 => ?_) (fun hc203 => ?_)
  · first | (replace hc203 := of_decide_eq_true hc203) | (replace hc203 := of_decide_eq_false (bnot_t hc203)) | (subst hc203) | (replace hc203 := bnot_t hc203; subst hc203) | (replace hc203 := bnot_t hc203) | skip
    refine c_seq ?_
    refine c_region ?_
    refine seq_yl hF (wn_none rfl) rfl rfl (yl_fieldAddr hF rfl rfl (fun w => by kernel_rfl : ∀ w, (Instr.fieldAt 25 (.pointer (some ⟨g200, 0, none⟩)) 3).run Try.prog w = .ok (.pointer (some ⟨g200, 3, none⟩)) w)) ?_
    clear hF; intro a hF
    refine seq_yl hF (wn_none rfl) rfl rfl (yl_load (fun _ h => h ▸ hS) hF rfl rfl 2 rfl ag23 rfl) ?_
    clear hF; intro a hF
    refine seq_wp (wn_none rfl) (wp_app0 (enc := enc39) hF hS rfl rfl rfl rfl rfl sl23 inf39 rfl (by decide) (hS.rdRo 3 rfl) enc39_one (by decide) (by first | omega | (simp only [List.length_append, List.length_cons, List.length_nil]; omega) | (simp; omega)) ?_)
    clear hF hS; intro a w v204 hF hS
    obtain ⟨Av204, cv204, rfl⟩ := hS.form 0 rfl
    refine seq_yl hF (wn_none rfl) rfl rfl (yl_fieldAddr hF rfl rfl (fun w => by kernel_rfl : ∀ w, (Instr.fieldAt 25 (.pointer (some ⟨g200, 0, none⟩)) 3).run Try.prog w = .ok (.pointer (some ⟨g200, 3, none⟩)) w)) ?_
    clear hF; intro a hF
    refine seq_wp (wn_none rfl) (wp_store (cs' := #[_, _, _, _]) hF hS rfl rfl rfl rfl 3 rfl sz23 (by simp [Value.cells, Value.oneCell']) (by simp [Value.cells]) rfl ?_)
    clear hF hS; intro a w hF hS
    refine wpList_nil ?_
    refine then_n ?_
    refine c_seq ?_
    refine c_region ?_
    refine seq_yl hF (wn_none rfl) rfl rfl (yl_loadK (rs := [_, _, _, _]) (fun _ h => h ▸ hS) hF rfl rfl 3 rfl ag25 sz25 rfl rfl) ?_
    clear hF; intro a hF
    refine seq_yl hF (wn_none rfl) rfl rfl (yl_build (parts := []) (vs := []) (cs := [_, _, _, _, _, _, _, _, _, _, _, _]) hF bd39 rfl rfl rfl rfl) ?_
    clear hF; intro a hF
    refine seq_wp (wn_none rfl) (wp_store (cs' := #[_, _, _, _]) hF hS rfl rfl rfl rfl 2 rfl sz25 (by simp [Value.cells, Value.oneCell']) (by simp [Value.cells]) rfl ?_)
    clear hF hS; intro a w hF hS
    refine seq_wp (wn_none rfl) (wp_store (cs' := #[_, _, _, _, _, _, _, _, _, _, _, _]) hF hS rfl rfl rfl rfl 1 rfl sz39 (by simp [Value.cells, Value.oneCell']) (by simp [Value.cells]) rfl ?_)
    clear hF hS; intro a w hF hS
    refine seq_yl hF (wn_none rfl) rfl rfl (yl_assign hF rfl rfl) ?_
    clear hF; intro a hF
    refine wpList_nil ?_
    refine then_n ?_
    refine wp_ret ?_
    refine then_r ?_
    refine ret_cct hF rfl (resC hS rfl 2 rfl ag25 sz25) (resC hS rfl 1 rfl ag39 sz39) rfl ?_
    exact ⟨_, rfl, _, _, zeroE, _, rfl, take_no (by omega), (hS.sub [0] (by decide) (by first | rfl | simp) (by simp))⟩
  · first | (replace hc203 := of_decide_eq_false hc203) | (replace hc203 := of_decide_eq_true (bnot_f hc203)) | (subst hc203) | (replace hc203 := bnot_f hc203; subst hc203) | (replace hc203 := bnot_f hc203) | skip
    refine wp_skip ?_
    refine then_n ?_
    refine c_seq ?_
    refine c_region ?_
    rcases idxF_cases (fun x : E39 => decide (x.f0 = n)) qL with ⟨k0, x0, hk0, hx0, hp0, hb0⟩ | ⟨hk0, _⟩; rotate_left; · omega
    have hk0l := (List.getElem?_eq_some_iff.1 hx0).1
    refine seq_yl hF (wn_none rfl) rfl rfl (yl_fieldAddr hF rfl rfl (fun w => by kernel_rfl : ∀ w, (Instr.fieldAt 25 (.pointer (some ⟨g200, 0, none⟩)) 3).run Try.prog w = .ok (.pointer (some ⟨g200, 3, none⟩)) w)) ?_
    clear hF; intro a hF
    refine seq_yl hF (wn_none rfl) rfl rfl (yl_load (fun _ h => h ▸ hS) hF rfl rfl 2 rfl ag23 rfl) ?_
    clear hF; intro a hF
    refine seq_yl hF (wn_none rfl) rfl rfl (yl_move hF rfl rfl) ?_
    clear hF; intro a hF
    replace hF := fr_seti (b' := ((k0 : Nat) : Int)) hF (hk0)
    have hlt_hx205 : k0 < (qL).length := by first | omega | (simp; done) | (simp; omega)
    obtain ⟨ad206, rfl⟩ := rd_some (hS.rdRo 3 rfl) hlt_hx205
    obtain ⟨x205, hx205⟩ := get_some hlt_hx205
    refine seq_yl hF (wn_none rfl) rfl rfl (yl_indexAddr hF rfl rfl rfl (fun _ => run_idx' sl23 sz39 (hS.rdRo 3 rfl) hlt_hx205)) ?_
    clear hF; intro a hF
    refine seq_yl hF (wn_none rfl) rfl rfl (yl_loadEl (rs := [.int .i64 (x205.f0), .int .i64 (x205.f1), .int .i64 (x205.f2), .int .i64 (x205.f3), .string x205.f4, .bool x205.f5, .int .i64 (x205.f6), .int .i64 (x205.f7), .int .i64 (x205.f8), .int .i64 (x205.f9), .bool x205.f10, .int .i64 (x205.f11)]) hF rfl rfl ag39 sz39 rfl (fun _ h => rd_cells (enc := enc39) (by subst h; exact hS.rdRo 3 rfl) enc39_len hx205)) ?_
    clear hF; intro a hF
    refine seq_wp (wn_none rfl) (wp_alloc (cs := #[_, _, _, _, _, _, _, _, _, _, _, _]) hF hS rfl rfl rfl zr39 rfl ?_)
    clear hF hS; intro a w g207 hF hS
    refine seq_wp (wn_none rfl) (wp_store (cs' := #[_, _, _, _, _, _, _, _, _, _, _, _]) hF hS rfl rfl rfl rfl 0 rfl sz39 (by simp [Value.cells, Value.oneCell']) (by simp [Value.cells]) rfl ?_)
    clear hF hS; intro a w hF hS
    refine wpList_nil ?_
    refine then_n ?_
    refine c_seq ?_
    refine ha_startS hS [3] 12 (by kernel_rfl) ?_; clear hS; intro w hS
    have hSS := hS.sub [3] (by decide) rfl (by simp)
    refine ha_y 0 hF rfl rfl rfl (wn_none rfl) (.inr hSS) (yl_fieldAddr hF rfl rfl (fun w => by kernel_rfl : ∀ w, (Instr.fieldAt 25 (.pointer (some ⟨g200, 0, none⟩)) 3).run Try.prog w = .ok (.pointer (some ⟨g200, 3, none⟩)) w)) ?_
    clear hF; intro a hF
    refine ha_y 2 hF rfl rfl rfl (wn_none rfl) (.inr hSS) (yl_move hF rfl rfl) ?_
    clear hF; intro a hF
    replace hF := fr_seti (b' := ((k0 : Nat) : Int)) hF (hk0)
    refine ha_y 5 hF rfl rfl rfl (wn_none rfl) (.inr hSS) (yl_fieldAddr hF rfl rfl (fun w => by kernel_rfl : ∀ w, (Instr.fieldAt 25 (.pointer (some ⟨g200, 0, none⟩)) 3).run Try.prog w = .ok (.pointer (some ⟨g200, 3, none⟩)) w)) ?_
    clear hF; intro a hF
    refine ha_y 7 hF rfl rfl rfl (wn_none rfl) (.inr hSS) (yl_move hF rfl rfl) ?_
    clear hF; intro a hF
    replace hF := fr_seti (b' := ((k0 : Nat) : Int)) hF (hk0)
    refine ha_y 8 hF rfl rfl rfl (wn_none rfl) (.inr hSS) (yl_bin hF rfl rfl rfl rfl (fun _ => run_inc (by omega))) ?_
    clear hF; intro a hF
    refine ha_l 1 hF rfl rfl rfl (wn_none rfl) hSS (yl_load (fun _ h => h) hF rfl rfl 0 rfl ag23 rfl) ?_
    clear hF; intro a hF
    have hcap208 := (hS.rdRo 4 rfl).cap
    refine ha_y 3 hF rfl rfl rfl (wn_none rfl) (.inr hSS) (yl_slicePre (hi := k0) hF rfl rfl rfl sl23 sz39 (by first | omega | (simp at *; omega))) ?_
    clear hF; intro a hF
    refine ha_l 6 hF rfl rfl rfl (wn_none rfl) hSS (yl_load (fun _ h => h) hF rfl rfl 0 rfl ag23 rfl) ?_
    clear hF; intro a hF
    have hcap209 := (hS.rdRo 4 rfl).cap
    refine ha_y 9 hF rfl rfl rfl (wn_none rfl) (.inr hSS) (yl_sliceSuf (lo := (k0 + 1)) hF rfl rfl rfl sl23 sz39 (by first | omega | (simp at *; omega)) (by first | omega | (simp at *; omega))) ?_
    clear hF; intro a hF
    refine ha_one 4 (by kernel_rfl) rfl (wn_none rfl) (wp_app0 (enc := enc39) hF hS rfl rfl rfl rfl rfl sl23 inf39 rfl (by decide) (rd_pre (L := qL) (hi := k0) (hS.rdRo 4 rfl) enc39_len (by first | omega | (simp at *; omega))) enc39_one (by decide) (by first | omega | (simp only [List.length_append, List.length_cons, List.length_nil]; omega) | (simp; omega)) ?_)
    clear hF hS; intro a w v210 hF hS
    obtain ⟨Av210, cv210, rfl⟩ := hS.form 0 rfl
    replace hSS := hS.sub [4] (by decide) rfl (by simp)
    refine ⟨.inr hSS, ?_⟩
    refine ha_one 10 (by kernel_rfl) rfl (wn_none rfl) (wp_app (enc := enc39) hF hS rfl rfl rfl rfl rfl 0 rfl sl23 inf39 rfl (by decide) (rd_suf (L := qL) (lo := (k0 + 1)) (hS.rdRo 5 rfl) enc39_len (by first | omega | (simp at *; omega))) enc39_one (by decide) (by first | omega | (simp only [List.length_append, List.length_cons, List.length_nil]; omega) | (simp; omega)) ?_)
    clear hF hS; intro a w v211 hF hS
    obtain ⟨Av211, cv211, rfl⟩ := hS.form 0 rfl
    replace hSS := hS.sub [4] (by decide) rfl (by simp)
    refine ⟨.inr hSS, ?_⟩
    refine ha_y 11 hF rfl rfl rfl (wn_none rfl) (.inr hSS) (yl_fieldAddr hF rfl rfl (fun w => by kernel_rfl : ∀ w, (Instr.fieldAt 25 (.pointer (some ⟨g200, 0, none⟩)) 3).run Try.prog w = .ok (.pointer (some ⟨g200, 3, none⟩)) w)) ?_
    clear hF; intro a hF
    refine ha_one 12 (by kernel_rfl) rfl (wn_none rfl) (wp_store (cs' := #[_, _, _, _]) hF hS rfl rfl rfl rfl 4 rfl sz23 (by simp [Value.cells, Value.oneCell']) (by simp [Value.cells]) rfl ?_)
    clear hF hS; intro a w hF hS
    refine ⟨.inl (by kernel_rfl), ?_⟩
    refine ha_done (by kernel_rfl) ?_ _
    refine then_n ?_
    refine c_seq ?_
    refine ha_startS hS [4, 1] 5 (by kernel_rfl) ?_; clear hS; intro w hS
    have hSS := hS.sub [4, 1] (by decide) rfl (by simp)
    refine ha_l 0 hF rfl rfl rfl (wn_none rfl) hSS (yl_loadK (rs := [_, _, _, _]) (fun _ h => h) hF rfl rfl 0 rfl ag25 sz25 rfl rfl) ?_
    clear hF; intro a hF
    refine ha_l 1 hF rfl rfl rfl (wn_none rfl) hSS (yl_loadK (rs := [_, _, _, _, _, _, _, _, _, _, _, _]) (fun _ h => h) hF rfl rfl 1 rfl ag39 sz39 rfl rfl) ?_
    clear hF; intro a hF
    refine ha_one 2 (by kernel_rfl) rfl (wn_none rfl) (wp_store (cs' := #[_, _, _, _]) hF hS rfl rfl rfl rfl 3 rfl sz25 (by simp [Value.cells, Value.oneCell']) (by simp [Value.cells]) rfl ?_)
    clear hF hS; intro a w hF hS
    replace hSS := hS.sub [4, 1] (by decide) rfl (by simp)
    refine ⟨.inr hSS, ?_⟩
    refine ha_one 3 (by kernel_rfl) rfl (wn_none rfl) (wp_store (cs' := #[_, _, _, _, _, _, _, _, _, _, _, _]) hF hS rfl rfl rfl rfl 2 rfl sz39 (by simp [Value.cells, Value.oneCell']) (by simp [Value.cells]) rfl ?_)
    clear hF hS; intro a w hF hS
    replace hSS := hS.sub [4, 1] (by decide) rfl (by simp)
    refine ⟨.inr hSS, ?_⟩
    refine ha_y 4 hF rfl rfl rfl (wn_none rfl) (.inr hSS) (yl_assign hF rfl rfl) ?_
    clear hF; intro a hF
    refine ha_done (by kernel_rfl) ?_ _
    refine then_n ?_
    refine wp_ret ?_
    refine ret_cct hF rfl (resC hS rfl 3 rfl ag25 sz25) (resC hS rfl 2 rfl ag39 sz39) rfl ?_
    exact ⟨_, rfl, _, _, x205, _, rfl, take_yes hk0 (by assumption), (hS.sub [0] (by decide) (by first | rfl | simp) (by simp))⟩

end Go.Proofs.Ytjjjmpkmjicpbaa

/- walks, printed by wip/gen -/
import Derived.Test.YtffaminjbcfojaaW3
namespace Go.Proofs.Ytffaminjbcfojaa
open Go.RowKit
set_option linter.unusedVariables false
set_option linter.unusedSimpArgs false

set_option maxRecDepth 100000 in
theorem deleteD_any (w0 w : World) (Ht : List Chunk) (Av : Option Addr) (cv : Nat) (L : List E44) (i : Nat) (hS : Sat w0 w (.row 44 2 (.slice Av L.length cv) (L).length (cells enc44 (L)) :: Ht)) (hi : i < L.length) (hL : L.length ≤ 1000000) :
    Fn Try.prog 31 #[.slice Av L.length cv, .int .i64 ((i : Nat) : Int), .int .i64 (((i + 1) : Nat) : Int)] w (fun v w' => ∃ v1, v = v1 ∧ Sat w0 w' (.row 44 2 v1 (L.take i ++ L.drop (i + 1)).length (cells enc44 (L.take i ++ L.drop (i + 1))) :: Ht)) := by
  obtain ⟨ad, rfl⟩ := rd_some (hS.rdRow 0 rfl) hi
  refine c_enterS (N := 33) (l := [_, _, _]) Try.func31 rfl rfl (fun a hF => ?_)
  refine c_seq ?_
  refine c_region ?_
  refine seq_yl hF (wn_none rfl) rfl rfl (yl_assign hF rfl rfl) ?_
  clear hF; intro a hF
  refine wpList_nil ?_
  refine then_n ?_
  refine c_seq ?_
  refine c_region ?_
  refine seq_yl hF (wn_none rfl) rfl rfl (yl_move hF rfl rfl) ?_
  clear hF; intro a hF
  refine seq_yl hF (wn_none rfl) rfl rfl (yl_move hF rfl rfl) ?_
  clear hF; intro a hF
  refine seq_yl hF (wn_none rfl) rfl rfl (yl_move hF rfl rfl) ?_
  clear hF; intro a hF
  refine seq_yl hF (wn_none rfl) rfl rfl (yl_move hF rfl rfl) ?_
  clear hF; intro a hF
  refine seq_yl hF (wn_none rfl) rfl rfl (yl_len hF rfl rfl (fun _ => run_lenRd sl26 (hS.rdRow 0 rfl))) ?_
  clear hF; intro a hF
  have hcap63 := (hS.rdRow 0 rfl).cap
  refine seq_yl hF (wn_none rfl) rfl rfl (yl_sliceLHM (lo := i) (hi := (i + 1)) (mx := (L).length) hF rfl rfl rfl rfl rfl sl26 sz44 (by first | omega | (simp at *; omega)) (by first | omega | (simp at *; omega)) (by first | omega | (simp at *; omega))) ?_
  clear hF; intro a hF
  refine wpList_nil ?_
  refine then_n ?_
  refine c_seq ?_
  refine c_seq ?_
  refine c_region ?_
  refine seq_yl hF (wn_none rfl) rfl rfl (yl_move hF rfl rfl) ?_
  clear hF; intro a hF
  refine seq_yl hF (wn_none rfl) rfl rfl (yl_move hF rfl rfl) ?_
  clear hF; intro a hF
  refine seq_yl hF (wn_none rfl) rfl rfl (yl_bin hF rfl rfl rfl rfl (fun _ => run_eql)) ?_
  clear hF; intro a hF
  replace hF := fr_set (b' := false) hF (by rw [decide_eq_false_iff_not]; omega)
  refine wpList_nil ?_
  refine then_n ?_
  refine c_cond_f hF rfl ?_
  refine wp_skip ?_
  refine then_n ?_
  refine c_seq ?_
  refine c_region ?_
  refine seq_yl hF (wn_none rfl) rfl rfl (yl_move hF rfl rfl) ?_
  clear hF; intro a hF
  refine seq_yl hF (wn_none rfl) rfl rfl (yl_len hF rfl rfl (fun _ => run_lenRd sl26 (hS.rdRow 0 rfl))) ?_
  clear hF; intro a hF
  refine seq_yl hF (wn_none rfl) rfl rfl (yl_assign hF rfl rfl) ?_
  clear hF; intro a hF
  refine wpList_nil ?_
  refine then_n ?_
  refine c_seq ?_
  refine ha_startS hS [] 8 (by kernel_rfl) ?_; clear hS; intro w hS
  have hSS := hS.sub [] (by decide) rfl (by simp)
  refine ha_y 0 hF rfl rfl rfl (wn_none rfl) (.inr hSS) (yl_move hF rfl rfl) ?_
  clear hF; intro a hF
  refine ha_y 1 hF rfl rfl rfl (wn_none rfl) (.inr hSS) (yl_move hF rfl rfl) ?_
  clear hF; intro a hF
  have hcap64 := (hS.rdRow 0 rfl).cap
  refine ha_y 2 hF rfl rfl rfl (wn_none rfl) (.inr hSS) (yl_slicePre (hi := i) hF rfl rfl rfl sl26 sz44 (by first | omega | (simp at *; omega))) ?_
  clear hF; intro a hF
  refine ha_y 3 hF rfl rfl rfl (wn_none rfl) (.inr hSS) (yl_move hF rfl rfl) ?_
  clear hF; intro a hF
  refine ha_y 4 hF rfl rfl rfl (wn_none rfl) (.inr hSS) (yl_move hF rfl rfl) ?_
  clear hF; intro a hF
  have hcap65 := (hS.rdRow 0 rfl).cap
  refine ha_y 5 hF rfl rfl rfl (wn_none rfl) (.inr hSS) (yl_sliceSuf (lo := (i + 1)) hF rfl rfl rfl sl26 sz44 (by first | omega | (simp at *; omega)) (by first | omega | (simp at *; omega))) ?_
  clear hF; intro a hF
  have hsrc := (rd_suf (L := L) (lo := (i + 1)) (hS.rdRow 0 rfl) enc44_len (by first | omega | (simp at *; omega)))
  have hcap := (hS.rdRow 0 rfl).cap
  replace hS := hS.cut 0 rfl enc44_len (hi := i) (by first | omega | (simp at *; omega))
  refine ha_one 6 (by kernel_rfl) rfl (wn_none rfl) (wp_appIn (enc := enc44) (m := i) hF hS rfl rfl rfl rfl rfl 0 rfl sl26 sz44 hsrc enc44_len enc44_one (by first | omega | (simp at *; omega)) ?_)
  clear hF hS; intro a w hF hS
  replace hSS := hS.sub [] (by decide) rfl (by simp)
  refine ⟨.inr hSS, ?_⟩
  refine ha_y 7 hF rfl rfl rfl (wn_none rfl) (.inr hSS) (yl_assign hF rfl rfl) ?_
  clear hF; intro a hF
  refine ha_done (by kernel_rfl) ?_ _
  refine then_n ?_
  refine c_seq ?_
  refine c_region ?_
  refine seq_yl hF (wn_none rfl) rfl rfl (yl_move hF rfl rfl) ?_
  clear hF; intro a hF
  refine seq_yl hF (wn_none rfl) rfl rfl (yl_move hF rfl rfl) ?_
  clear hF; intro a hF
  refine seq_yl hF (wn_none rfl) rfl rfl (yl_len hF rfl rfl (fun _ => run_lenRd sl26 (hS.rdRow 0 rfl))) ?_
  clear hF; intro a hF
  refine seq_yl hF (wn_none rfl) rfl rfl (yl_move hF rfl rfl) ?_
  clear hF; intro a hF
  have hcap67 := (hS.rdRow 0 rfl).cap
  refine seq_yl hF (wn_none rfl) rfl rfl (yl_sliceLH (lo := (((L.take i) ++ (L.drop (i + 1)))).length) (hi := (L).length) hF rfl rfl rfl rfl sl26 sz44 (by first | omega | (simp at *; omega)) (by first | omega | (simp at *; omega))) ?_
  clear hF; intro a hF
  refine seq_wp (wn_none rfl) (wp_clearT (enc := enc44) (k := (L).length - (((L.take i) ++ (L.drop (i + 1)))).length) hF hS rfl rfl rfl (by first | rfl | (simp; omega)) 0 rfl sl26 zr44 rfl (by simp [Value.cells, Value.oneCell']) (by first | omega | (simp at *; omega)) ?_)
  clear hF hS; intro a w hF hS
  refine wpList_nil ?_
  refine then_n ?_
  refine c_seq ?_
  refine c_region ?_
  refine seq_yl hF (wn_none rfl) rfl rfl (yl_move hF rfl rfl) ?_
  clear hF; intro a hF
  refine seq_yl hF (wn_none rfl) rfl rfl (yl_assign hF rfl rfl) ?_
  clear hF; intro a hF
  refine wpList_nil ?_
  refine then_n ?_
  refine wp_ret ?_
  refine ret_t hF rfl rfl ?_
  exact ⟨_, rfl, _, rfl, (hS.subT 1 [0] (by decide) (by first | rfl | simp) (by simp) (by simp))⟩

set_option maxRecDepth 100000 in
theorem without_any (v : Value) (L : List E44) (t : Int) (w0 : World) (hv : Rd w0 2 v (L).length (cells enc44 (L))) (hL : L.length ≤ 1000000) :
    Fn Try.prog 32 #[v, .int .i64 t] w0 (fun v w' => ∃ v1, v = v1 ∧ Sat w0 w' [.row 44 2 v1 (remL L t).length (cells enc44 (remL L t))]) := by
  obtain ⟨Av, cv, rfl⟩ := Rd.form hv
  refine c_enter (N := 28) (l := [_, _]) Try.func32 rfl rfl (fun a w hF hS => ?_)
  replace hS := hS.addRo hv
  refine c_seq ?_
  refine c_region ?_
  refine seq_yl hF (wn_none rfl) rfl rfl (yl_assign hF rfl rfl) ?_
  clear hF; intro a hF
  refine wpList_nil ?_
  refine then_n ?_
  refine c_seq ?_
  refine c_region ?_
  refine seq_yl hF (wn_none rfl) rfl rfl (yl_assign hF rfl rfl) ?_
  clear hF; intro a hF
  refine wpList_nil ?_
  refine then_n ?_
  refine c_seq ?_
  refine c_seq ?_
  refine c_region ?_
  refine seq_yl hF (wn_none rfl) rfl rfl (yl_assign hF rfl rfl) ?_
  clear hF; intro a hF
  refine wpList_nil ?_
  refine then_n ?_
  refine wp_block ?_
  replace hS := hS.addNil 44 2
  refine c_loop (fun m a w => ∃ (k : Nat) (AvR : Option Addr) (cvR : Nat), m = L.length - k ∧ (k ≤ L.length) ∧ Fr 28 a [(0, .slice Av (L).length cv), (1, .int .i64 (t)), (5, .slice AvR ((remL (L.take k) t)).length cvR), (6, .int .i64 ((k : Nat) : Int))] ∧ Sat w0 w (.ro 2 (.slice Av (L).length cv) (L).length (cells enc44 (L)) :: .row 44 2 (.slice AvR ((remL (L.take k) t)).length cvR) ((remL (L.take k) t)).length (cells enc44 ((remL (L.take k) t))) :: [])) (L.length - 0) ?_ ?_
  · exact ⟨0, none, 0, rfl, (Nat.zero_le _), hF.to [0, 1, 5, 6] rfl, (hS.sub [1, 0] (by decide) (by first | rfl | simp) (by simp))⟩
  · clear hF hS; try clear hSS
    clear a w; rintro m a w ⟨k, AvR, cvR, rfl, hinv, hF, hS⟩
    have hk := hinv
    have hrl : (remL (L.take k) t).length ≤ k := Nat.le_trans (remL_len _ _) (by simp; omega)
    refine c_seq ?_
    refine c_seq ?_
    refine c_region ?_
    refine seq_yl hF (wn_none rfl) rfl rfl (yl_move hF rfl rfl) ?_
    clear hF; intro a hF
    refine seq_yl hF (wn_none rfl) rfl rfl (yl_move hF rfl rfl) ?_
    clear hF; intro a hF
    refine seq_yl hF (wn_none rfl) rfl rfl (yl_len hF rfl rfl (fun _ => run_lenRd sl26 (hS.rdRo 0 rfl))) ?_
    clear hF; intro a hF
    refine seq_yl hF (wn_none rfl) rfl rfl (yl_bin hF rfl rfl rfl rfl (fun _ => run_lss)) ?_
    clear hF; intro a hF
    refine wpList_nil ?_
    refine then_n ?_
    refine c_cond hF rfl (fun hc68 => ?_) (fun hc68 => ?_)
    · first | (replace hc68 := of_decide_eq_true hc68) | (replace hc68 := of_decide_eq_false (bnot_t hc68)) | (subst hc68) | (replace hc68 := bnot_t hc68; subst hc68) | (replace hc68 := bnot_t hc68) | skip
      refine wp_skip ?_
      refine then_n ?_
      refine c_seq ?_
      refine wp_block ?_
      refine c_seq ?_
      refine c_region ?_
      refine seq_yl hF (wn_none rfl) rfl rfl (yl_move hF rfl rfl) ?_
      clear hF; intro a hF
      refine seq_yl hF (wn_none rfl) rfl rfl (yl_move hF rfl rfl) ?_
      clear hF; intro a hF
      have hlt_hx69 : k < (L).length := by first | omega | (simp; done) | (simp; omega)
      obtain ⟨ad70, rfl⟩ := rd_some (hS.rdRo 0 rfl) hlt_hx69
      obtain ⟨x69, hx69⟩ := get_some hlt_hx69
      refine seq_yl hF (wn_none rfl) rfl rfl (yl_indexAddr hF rfl rfl rfl (fun _ => run_idx' sl26 sz44 (hS.rdRo 0 rfl) hlt_hx69)) ?_
      clear hF; intro a hF
      refine seq_yl hF (wn_none rfl) rfl rfl (yl_fieldAddr hF rfl rfl (fun w => run_fa0 fo44_0)) ?_
      clear hF; intro a hF
      refine seq_yl hF (wn_none rfl) rfl rfl (yl_loadAt hF rfl rfl ag3 (fun _ h => rd_cell0 (enc := enc44) (by subst h; exact hS.rdRo 0 rfl) enc44_len hx69 rfl rfl)) ?_
      clear hF; intro a hF
      refine seq_yl hF (wn_none rfl) rfl rfl (yl_move hF rfl rfl) ?_
      clear hF; intro a hF
      refine seq_yl hF (wn_none rfl) rfl rfl (yl_bin hF rfl rfl rfl rfl (fun _ => run_neq)) ?_
      clear hF; intro a hF
      refine wpList_nil ?_
      refine then_n ?_
      refine c_cond hF rfl (fun hc71 => ?_) (fun hc71 => ?_)
      · first | (replace hc71 := of_decide_eq_true hc71) | (replace hc71 := of_decide_eq_false (bnot_t hc71)) | (subst hc71) | (replace hc71 := bnot_t hc71; subst hc71) | (replace hc71 := bnot_t hc71) | skip
        refine c_region ?_
        refine seq_yl hF (wn_none rfl) rfl rfl (yl_move hF rfl rfl) ?_
        clear hF; intro a hF
        refine seq_yl hF (wn_none rfl) rfl rfl (yl_move hF rfl rfl) ?_
        clear hF; intro a hF
        refine seq_yl hF (wn_none rfl) rfl rfl (yl_move hF rfl rfl) ?_
        clear hF; intro a hF
        refine seq_yl hF (wn_none rfl) rfl rfl (yl_indexAddr hF rfl rfl rfl (fun _ => run_idx' sl26 sz44 (hS.rdRo 0 rfl) hlt_hx69)) ?_
        clear hF; intro a hF
        refine seq_yl hF (wn_none rfl) rfl rfl (yl_loadEl (rs := [.int .i64 (x69.f0), .int .i64 (x69.f1)]) hF rfl rfl ag44 sz44 rfl (fun _ h => rd_cells (enc := enc44) (by subst h; exact hS.rdRo 0 rfl) enc44_len hx69)) ?_
        clear hF; intro a hF
        refine seq_wp (wn_none rfl) (wp_bslice (parts := [(0, .tmp 24)]) (vs := [(0, _)]) (enc := enc44) (e := 44) (size := 2) (cs := #[.int .i64 (x69.f0), .int .i64 (x69.f1)]) hF hS rfl rfl rfl rfl ([(E44.mk (x69.f0) (x69.f1))] : List E44) (fun w => by kernel_rfl) rfl rfl rfl (by decide) ?_)
        clear hF hS; intro a w v72 hF hS
        obtain ⟨Av72, cv72, rfl⟩ := hS.form 0 rfl
        refine seq_wp (wn_none rfl) (wp_app (enc := enc44) hF hS rfl rfl rfl rfl rfl 2 rfl sl26 inf44 rfl (by decide) (hS.rdRow 0 rfl) enc44_one (by decide) (by first | omega | (simp only [List.length_append, List.length_cons, List.length_nil]; omega) | (simp; omega)) ?_)
        clear hF hS; intro a w v73 hF hS
        obtain ⟨Av73, cv73, rfl⟩ := hS.form 2 rfl
        refine seq_yl hF (wn_none rfl) rfl rfl (yl_assign hF rfl rfl) ?_
        clear hF; intro a hF
        refine wpList_nil ?_
        refine inb_n ?_
        refine then_n ?_
        refine c_region ?_
        refine seq_yl hF (wn_none rfl) rfl rfl (yl_move hF rfl rfl) ?_
        clear hF; intro a hF
        refine seq_yl hF (wn_none rfl) rfl rfl (yl_bin hF rfl rfl rfl rfl (fun _ => run_inc (by omega))) ?_
        clear hF; intro a hF
        refine seq_yl hF (wn_none rfl) rfl rfl (yl_assign hF rfl rfl) ?_
        clear hF; intro a hF
        refine wpList_nil ?_
        refine then_n ?_
        rw [show ((remL (L.take k) t) ++ ([(E44.mk (x69.f0) (x69.f1))] : List E44)) = remL (L.take (k + 1)) t from (rem_snoc hx69 (by omega)).symm] at hF hS
        exact ⟨_, (by omega), k + 1, Av73, cv73, rfl, (by omega), hF.to [0, 1, 5, 6] rfl, (hS.sub [1, 2] (by decide) (by first | rfl | simp) (by simp))⟩
      · first | (replace hc71 := of_decide_eq_false hc71) | (replace hc71 := of_decide_eq_true (bnot_f hc71)) | (subst hc71) | (replace hc71 := bnot_f hc71; subst hc71) | (replace hc71 := bnot_f hc71) | skip
        refine wp_skip ?_
        refine inb_n ?_
        refine then_n ?_
        refine c_region ?_
        refine seq_yl hF (wn_none rfl) rfl rfl (yl_move hF rfl rfl) ?_
        clear hF; intro a hF
        refine seq_yl hF (wn_none rfl) rfl rfl (yl_bin hF rfl rfl rfl rfl (fun _ => run_inc (by omega))) ?_
        clear hF; intro a hF
        refine seq_yl hF (wn_none rfl) rfl rfl (yl_assign hF rfl rfl) ?_
        clear hF; intro a hF
        refine wpList_nil ?_
        refine then_n ?_
        rw [show (remL (L.take k) t) = remL (L.take (k + 1)) t from (rem_skip hx69 (by omega)).symm] at hF hS
        exact ⟨_, (by omega), k + 1, AvR, cvR, rfl, (by omega), hF.to [0, 1, 5, 6] rfl, (hS.sub [0, 1] (by decide) (by first | rfl | simp) (by simp))⟩
    · first | (replace hc68 := of_decide_eq_false hc68) | (replace hc68 := of_decide_eq_true (bnot_f hc68)) | (subst hc68) | (replace hc68 := bnot_f hc68; subst hc68) | (replace hc68 := bnot_f hc68) | skip
      refine wp_exit ?_
      refine then_x ?_
      refine then_x ?_
      refine inb_x ?_
      refine then_n ?_
      refine c_seq ?_
      refine c_region ?_
      refine seq_yl hF (wn_none rfl) rfl rfl (yl_move hF rfl rfl) ?_
      clear hF; intro a hF
      refine seq_yl hF (wn_none rfl) rfl rfl (yl_assign hF rfl rfl) ?_
      clear hF; intro a hF
      refine wpList_nil ?_
      refine then_n ?_
      refine wp_ret ?_
      refine ret_t hF rfl rfl ?_
      have htk : L.take k = L := List.take_of_length_le (by omega)
      simp only [htk] at hS ⊢
      exact ⟨_, rfl, _, rfl, (hS.sub [1] (by decide) (by first | rfl | simp) (by simp))⟩

set_option maxRecDepth 100000 in
theorem add_any (v : Value) (L : List E44) (t u : Int) (w0 : World) (hv : Rd w0 2 v (L).length (cells enc44 (L))) (hL : L.length ≤ 1000000) :
    Fn Try.prog 9 #[v, .int .i64 t, .int .i64 u] w0 (fun v w' => ∃ (v1 : Value) (L1 : List E44) (e : Int), v = .tuple #[v1, .int .i64 e] ∧ addF L t u = (L1, e) ∧ Sat w0 w' [.row 44 2 v1 (L1).length (cells enc44 (L1))]) := by
  obtain ⟨Av, cv, rfl⟩ := Rd.form hv
  refine c_enter (N := 32) (l := [_, _, _]) Try.func9 rfl rfl (fun a w hF hS => ?_)
  replace hS := hS.addRo hv
  refine c_seq ?_
  refine c_region ?_
  refine seq_yl hF (wn_none rfl) rfl rfl (yl_assign hF rfl rfl) ?_
  clear hF; intro a hF
  refine seq_yl hF (wn_none rfl) rfl rfl (yl_assign hF rfl rfl) ?_
  clear hF; intro a hF
  refine wpList_nil ?_
  refine then_n ?_
  refine c_seq ?_
  refine c_region ?_
  refine seq_yl hF (wn_none rfl) rfl rfl (yl_move hF rfl rfl) ?_
  clear hF; intro a hF
  refine seq_wp (wn_none rfl) (wp_call (vs := [_]) hF rfl rfl rfl rfl cf25 (cloneD_any _ _ _ (hS.rdRo 0 rfl) (by first | omega | (simp; done) | (simp; omega))) ?_)
  clear hF; rintro _ w ⟨v74, rfl, hS1⟩ a hF
  replace hS := hS.callB hS1 rfl; clear hS1
  obtain ⟨Av74, cv74, rfl⟩ := hS.form 0 rfl
  refine seq_yl hF (wn_none rfl) rfl rfl (yl_assign hF rfl rfl) ?_
  clear hF; intro a hF
  refine wpList_nil ?_
  refine then_n ?_
  refine c_seq ?_
  refine c_seq ?_
  refine c_region ?_
  refine seq_yl hF (wn_none rfl) rfl rfl (yl_move hF rfl rfl) ?_
  clear hF; intro a hF
  refine seq_yl hF (wn_none rfl) rfl rfl (yl_move hF rfl rfl) ?_
  clear hF; intro a hF
  refine seq_yl hF (wn_none rfl) rfl rfl (yl_move hF rfl rfl) ?_
  clear hF; intro a hF
  refine seq_wp (wn_none rfl) (wp_call (vs := [_, _, _]) hF rfl rfl rfl rfl cf26 (late_any _ L (t) (u) _ (hS.rdRo 1 rfl) (by first | omega | (simp; done) | (simp; omega))) ?_)
  clear hF; rintro _ w ⟨rfl, hS1⟩ a hF
  replace hS := hS.callB hS1 rfl; clear hS1
  refine seq_yl hF (wn_none rfl) rfl rfl (yl_assign hF rfl rfl) ?_
  clear hF; intro a hF
  refine wpList_nil ?_
  refine then_n ?_
  refine c_seq ?_
  refine c_region ?_
  refine seq_yl hF (wn_none rfl) rfl rfl (yl_move hF rfl rfl) ?_
  clear hF; intro a hF
  refine seq_yl hF (wn_none rfl) rfl rfl (yl_bin hF rfl rfl rfl rfl (fun _ => run_neq)) ?_
  clear hF; intro a hF
  refine seq_yl hF (wn_none rfl) rfl rfl (yl_move hF rfl rfl) ?_
  clear hF; intro a hF
  refine fr_split hF (fun hc75 hF => ?_) (fun hc75 hF => ?_)
  · first | (replace hc75 := of_decide_eq_true hc75) | (replace hc75 := of_decide_eq_false (bnot_t hc75)) | (subst hc75) | (replace hc75 := bnot_t hc75; subst hc75) | (replace hc75 := bnot_t hc75) | skip
    refine seq_skip hF (wn_f hF rfl rfl rfl rfl) rfl rfl ?_
    clear hF; intro a hF
    refine seq_skip hF (wn_f hF rfl rfl rfl rfl) rfl rfl ?_
    clear hF; intro a hF
    refine seq_skip hF (wn_f hF rfl rfl rfl rfl) rfl rfl ?_
    clear hF; intro a hF
    refine seq_skip hF (wn_f hF rfl rfl rfl rfl) rfl rfl ?_
    clear hF; intro a hF
    refine seq_yl hF (wn_none rfl) rfl rfl (yl_pick (u := _) (v := undef) hF rfl rfl (fun _ => rfl) (fun h => by cases h)) ?_
    clear hF; intro a hF
    refine wpList_nil ?_
    refine then_n ?_
    refine c_cond_t hF rfl ?_
    refine c_seq ?_
    refine c_region ?_
    refine seq_yl hF (wn_none rfl) rfl rfl (yl_move hF rfl rfl) ?_
    clear hF; intro a hF
    refine seq_yl hF (wn_none rfl) rfl rfl (yl_move hF rfl rfl) ?_
    clear hF; intro a hF
    refine seq_yl hF (wn_none rfl) rfl rfl (yl_assign hF rfl rfl) ?_
    clear hF; intro a hF
    refine seq_yl hF (wn_none rfl) rfl rfl (yl_assign hF rfl rfl) ?_
    clear hF; intro a hF
    refine wpList_nil ?_
    refine then_n ?_
    refine wp_ret ?_
    refine then_r ?_
    refine ret_tt hF rfl rfl rfl ?_
    exact ⟨_, rfl, _, _, _, rfl, by first | exact add_e (by omega) | exact add_has (by omega) (has_yes (by omega)) | exact add_new (by omega) (has_no (by omega)), (hS.sub [0] (by decide) (by first | rfl | simp) (by simp))⟩
  · first | (replace hc75 := of_decide_eq_false hc75) | (replace hc75 := of_decide_eq_true (bnot_f hc75)) | (subst hc75) | (replace hc75 := bnot_f hc75; subst hc75) | (replace hc75 := bnot_f hc75) | skip
    refine seq_yl hF (wn_t hF rfl rfl rfl rfl) rfl rfl (yl_move hF rfl rfl) ?_
    clear hF; intro a hF
    refine seq_yl hF (wn_t hF rfl rfl rfl rfl) rfl rfl (yl_move hF rfl rfl) ?_
    clear hF; intro a hF
    refine seq_wp (wn_t hF rfl rfl rfl rfl) (wp_call (vs := [_, _]) hF rfl rfl rfl rfl cf27 (find_any _ L (t) _ (hS.rdRo 1 rfl) (by first | omega | (simp; done) | (simp; omega))) ?_)
    clear hF; rintro _ w ⟨rfl, hS1⟩ a hF
    replace hS := hS.callB hS1 rfl; clear hS1
    refine seq_yl hF (wn_t hF rfl rfl rfl rfl) rfl rfl (yl_bin hF rfl rfl rfl rfl (fun _ => run_geq)) ?_
    clear hF; intro a hF
    refine seq_yl hF (wn_none rfl) rfl rfl (yl_pick (u := _) (v := undef) hF rfl rfl (fun h => by cases h) (fun _ => rfl)) ?_
    clear hF; intro a hF
    refine wpList_nil ?_
    refine then_n ?_
    refine c_cond hF rfl (fun hc76 => ?_) (fun hc76 => ?_)
    · first | (replace hc76 := of_decide_eq_true hc76) | (replace hc76 := of_decide_eq_false (bnot_t hc76)) | (subst hc76) | (replace hc76 := bnot_t hc76; subst hc76) | (replace hc76 := bnot_t hc76) | skip
      refine c_seq ?_
      refine c_region ?_
      refine seq_yl hF (wn_none rfl) rfl rfl (yl_move hF rfl rfl) ?_
      clear hF; intro a hF
      refine seq_yl hF (wn_none rfl) rfl rfl (yl_move hF rfl rfl) ?_
      clear hF; intro a hF
      refine seq_yl hF (wn_none rfl) rfl rfl (yl_assign hF rfl rfl) ?_
      clear hF; intro a hF
      refine seq_yl hF (wn_none rfl) rfl rfl (yl_assign hF rfl rfl) ?_
      clear hF; intro a hF
      refine wpList_nil ?_
      refine then_n ?_
      refine wp_ret ?_
      refine then_r ?_
      refine ret_tt hF rfl rfl rfl ?_
      exact ⟨_, rfl, _, _, _, rfl, by first | exact add_e (by omega) | exact add_has (by omega) (has_yes (by omega)) | exact add_new (by omega) (has_no (by omega)), (hS.sub [0] (by decide) (by first | rfl | simp) (by simp))⟩
    · first | (replace hc76 := of_decide_eq_false hc76) | (replace hc76 := of_decide_eq_true (bnot_f hc76)) | (subst hc76) | (replace hc76 := bnot_f hc76; subst hc76) | (replace hc76 := bnot_f hc76) | skip
      refine wp_skip ?_
      refine then_n ?_
      refine c_seq ?_
      refine c_region ?_
      refine seq_yl hF (wn_none rfl) rfl rfl (yl_move hF rfl rfl) ?_
      clear hF; intro a hF
      refine seq_yl hF (wn_none rfl) rfl rfl (yl_move hF rfl rfl) ?_
      clear hF; intro a hF
      refine seq_yl hF (wn_none rfl) rfl rfl (yl_move hF rfl rfl) ?_
      clear hF; intro a hF
      refine seq_yl hF (wn_none rfl) rfl rfl (yl_build (parts := [(0, .tmp 27), (1, .tmp 28)]) (vs := [(0, _), (1, _)]) (cs := [_, _]) hF bd44 rfl rfl rfl rfl) ?_
      clear hF; intro a hF
      refine seq_wp (wn_none rfl) (wp_bslice (parts := [(0, .tmp 29)]) (vs := [(0, _)]) (enc := enc44) (e := 44) (size := 2) (cs := #[.int .i64 (t), .int .i64 (u)]) hF hS rfl rfl rfl rfl ([(E44.mk (t) (u))] : List E44) (fun w => by kernel_rfl) rfl rfl rfl (by decide) ?_)
      clear hF hS; intro a w v77 hF hS
      obtain ⟨Av77, cv77, rfl⟩ := hS.form 0 rfl
      refine seq_wp (wn_none rfl) (wp_app (enc := enc44) hF hS rfl rfl rfl rfl rfl 1 rfl sl26 inf44 rfl (by decide) (hS.rdRow 0 rfl) enc44_one (by decide) (by first | omega | (simp only [List.length_append, List.length_cons, List.length_nil]; omega) | (simp; omega)) ?_)
      clear hF hS; intro a w v78 hF hS
      obtain ⟨Av78, cv78, rfl⟩ := hS.form 1 rfl
      refine seq_yl hF (wn_none rfl) rfl rfl (yl_assign hF rfl rfl) ?_
      clear hF; intro a hF
      refine seq_yl hF (wn_none rfl) rfl rfl (yl_assign hF rfl rfl) ?_
      clear hF; intro a hF
      refine wpList_nil ?_
      refine then_n ?_
      refine wp_ret ?_
      refine ret_tt hF rfl rfl rfl ?_
      exact ⟨_, rfl, _, _, _, rfl, by first | exact add_e (by omega) | exact add_has (by omega) (has_yes (by omega)) | exact add_new (by omega) (has_no (by omega)), (hS.sub [1] (by decide) (by first | rfl | simp) (by simp))⟩

set_option maxRecDepth 100000 in
theorem remove_any (v : Value) (L : List E44) (t : Int) (w0 : World) (hv : Rd w0 2 v (L).length (cells enc44 (L))) (hL : L.length ≤ 1000000) :
    Fn Try.prog 11 #[v, .int .i64 t] w0 (fun v w' => ∃ (v1 : Value) (L1 : List E44) (e : Int), v = .tuple #[v1, .int .i64 e] ∧ remF L t = (L1, e) ∧ Sat w0 w' [.row 44 2 v1 (L1).length (cells enc44 (L1))]) := by
  obtain ⟨Av, cv, rfl⟩ := Rd.form hv
  refine c_enter (N := 29) (l := [_, _]) Try.func11 rfl rfl (fun a w hF hS => ?_)
  replace hS := hS.addRo hv
  refine c_seq ?_
  refine c_region ?_
  refine seq_yl hF (wn_none rfl) rfl rfl (yl_assign hF rfl rfl) ?_
  clear hF; intro a hF
  refine seq_yl hF (wn_none rfl) rfl rfl (yl_assign hF rfl rfl) ?_
  clear hF; intro a hF
  refine wpList_nil ?_
  refine then_n ?_
  refine c_seq ?_
  refine c_region ?_
  refine seq_yl hF (wn_none rfl) rfl rfl (yl_move hF rfl rfl) ?_
  clear hF; intro a hF
  refine seq_wp (wn_none rfl) (wp_call (vs := [_]) hF rfl rfl rfl rfl cf25 (cloneD_any _ _ _ (hS.rdRo 0 rfl) (by first | omega | (simp; done) | (simp; omega))) ?_)
  clear hF; rintro _ w ⟨v79, rfl, hS1⟩ a hF
  replace hS := hS.callB hS1 rfl; clear hS1
  obtain ⟨Av79, cv79, rfl⟩ := hS.form 0 rfl
  refine seq_yl hF (wn_none rfl) rfl rfl (yl_assign hF rfl rfl) ?_
  clear hF; intro a hF
  refine wpList_nil ?_
  refine then_n ?_
  refine c_seq ?_
  refine c_seq ?_
  refine c_region ?_
  refine seq_yl hF (wn_none rfl) rfl rfl (yl_move hF rfl rfl) ?_
  clear hF; intro a hF
  refine seq_yl hF (wn_none rfl) rfl rfl (yl_move hF rfl rfl) ?_
  clear hF; intro a hF
  refine seq_wp (wn_none rfl) (wp_call (vs := [_, _]) hF rfl rfl rfl rfl cf30 (wrong_any _ L (t) _ (hS.rdRo 1 rfl) (by first | omega | (simp; done) | (simp; omega))) ?_)
  clear hF; rintro _ w ⟨rfl, hS1⟩ a hF
  replace hS := hS.callB hS1 rfl; clear hS1
  refine seq_yl hF (wn_none rfl) rfl rfl (yl_assign hF rfl rfl) ?_
  clear hF; intro a hF
  refine wpList_nil ?_
  refine then_n ?_
  refine c_seq ?_
  refine c_region ?_
  refine seq_yl hF (wn_none rfl) rfl rfl (yl_move hF rfl rfl) ?_
  clear hF; intro a hF
  refine seq_yl hF (wn_none rfl) rfl rfl (yl_bin hF rfl rfl rfl rfl (fun _ => run_neq)) ?_
  clear hF; intro a hF
  refine wpList_nil ?_
  refine then_n ?_
  refine c_cond hF rfl (fun hc80 => ?_) (fun hc80 => ?_)
  · first | (replace hc80 := of_decide_eq_true hc80) | (replace hc80 := of_decide_eq_false (bnot_t hc80)) | (subst hc80) | (replace hc80 := bnot_t hc80; subst hc80) | (replace hc80 := bnot_t hc80) | skip
    refine c_seq ?_
    refine c_region ?_
    refine seq_yl hF (wn_none rfl) rfl rfl (yl_move hF rfl rfl) ?_
    clear hF; intro a hF
    refine seq_yl hF (wn_none rfl) rfl rfl (yl_move hF rfl rfl) ?_
    clear hF; intro a hF
    refine seq_yl hF (wn_none rfl) rfl rfl (yl_assign hF rfl rfl) ?_
    clear hF; intro a hF
    refine seq_yl hF (wn_none rfl) rfl rfl (yl_assign hF rfl rfl) ?_
    clear hF; intro a hF
    refine wpList_nil ?_
    refine then_n ?_
    refine wp_ret ?_
    refine then_r ?_
    refine ret_tt hF rfl rfl rfl ?_
    exact ⟨_, rfl, _, _, _, rfl, by first | exact rem_e (by omega) | exact rem_no (by omega) (has_no (by omega)) | exact rem_yes (by omega) hi hil, (hS.sub [0] (by decide) (by first | rfl | simp) (by simp))⟩
  · first | (replace hc80 := of_decide_eq_false hc80) | (replace hc80 := of_decide_eq_true (bnot_f hc80)) | (subst hc80) | (replace hc80 := bnot_f hc80; subst hc80) | (replace hc80 := bnot_f hc80) | skip
    refine wp_skip ?_
    refine then_n ?_
    refine c_seq ?_
    refine c_region ?_
    refine seq_yl hF (wn_none rfl) rfl rfl (yl_move hF rfl rfl) ?_
    clear hF; intro a hF
    refine seq_yl hF (wn_none rfl) rfl rfl (yl_move hF rfl rfl) ?_
    clear hF; intro a hF
    refine seq_wp (wn_none rfl) (wp_call (vs := [_, _]) hF rfl rfl rfl rfl cf27 (find_any _ L (t) _ (hS.rdRo 1 rfl) (by first | omega | (simp; done) | (simp; omega))) ?_)
    clear hF; rintro _ w ⟨rfl, hS1⟩ a hF
    replace hS := hS.callB hS1 rfl; clear hS1
    refine seq_yl hF (wn_none rfl) rfl rfl (yl_assign hF rfl rfl) ?_
    clear hF; intro a hF
    refine wpList_nil ?_
    refine then_n ?_
    refine c_seq ?_
    refine c_seq ?_
    refine c_region ?_
    refine seq_yl hF (wn_none rfl) rfl rfl (yl_move hF rfl rfl) ?_
    clear hF; intro a hF
    refine seq_yl hF (wn_none rfl) rfl rfl (yl_bin hF rfl rfl rfl rfl (fun _ => run_lss)) ?_
    clear hF; intro a hF
    refine wpList_nil ?_
    refine then_n ?_
    refine c_cond hF rfl (fun hc81 => ?_) (fun hc81 => ?_)
    · first | (replace hc81 := of_decide_eq_true hc81) | (replace hc81 := of_decide_eq_false (bnot_t hc81)) | (subst hc81) | (replace hc81 := bnot_t hc81; subst hc81) | (replace hc81 := bnot_t hc81) | skip
      refine c_seq ?_
      refine c_region ?_
      refine seq_yl hF (wn_none rfl) rfl rfl (yl_move hF rfl rfl) ?_
      clear hF; intro a hF
      refine seq_yl hF (wn_none rfl) rfl rfl (yl_assign hF rfl rfl) ?_
      clear hF; intro a hF
      refine seq_yl hF (wn_none rfl) rfl rfl (yl_assign hF rfl rfl) ?_
      clear hF; intro a hF
      refine wpList_nil ?_
      refine then_n ?_
      refine wp_ret ?_
      refine then_r ?_
      refine ret_tt hF rfl rfl rfl ?_
      exact ⟨_, rfl, _, _, _, rfl, by first | exact rem_e (by omega) | exact rem_no (by omega) (has_no (by omega)) | exact rem_yes (by omega) hi hil, (hS.sub [0] (by decide) (by first | rfl | simp) (by simp))⟩
    · first | (replace hc81 := of_decide_eq_false hc81) | (replace hc81 := of_decide_eq_true (bnot_f hc81)) | (subst hc81) | (replace hc81 := bnot_f hc81; subst hc81) | (replace hc81 := bnot_f hc81) | skip
      refine wp_skip ?_
      refine then_n ?_
      refine c_seq ?_
      refine c_region ?_
      obtain ⟨i, hi, hil⟩ := idx_nat (p := (fun x : E44 => decide (x.f0 = t))) (L := L) (by omega)
      refine seq_yl hF (wn_none rfl) rfl rfl (yl_move hF rfl rfl) ?_
      clear hF; intro a hF
      refine seq_yl hF (wn_none rfl) rfl rfl (yl_move hF rfl rfl) ?_
      clear hF; intro a hF
      replace hF := fr_seti (b' := ((i : Nat) : Int)) hF (hi)
      refine seq_yl hF (wn_none rfl) rfl rfl (yl_move hF rfl rfl) ?_
      clear hF; intro a hF
      replace hF := fr_seti (b' := ((i : Nat) : Int)) hF (hi)
      refine seq_yl hF (wn_none rfl) rfl rfl (yl_bin hF rfl rfl rfl rfl (fun _ => run_inc (by omega))) ?_
      clear hF; intro a hF
      refine seq_wp (wn_none rfl) (wp_call (vs := [_, _, _]) hF rfl rfl rfl rfl cf31 (deleteD_any _ _ _ _ _ L i hS (by first | omega | (simp; done) | (simp; omega)) (by first | omega | (simp; done) | (simp; omega))) ?_)
      clear hF; rintro _ w ⟨v82, rfl, hS1⟩ a hF; replace hS := hS1; clear hS1
      obtain ⟨Av82, cv82, rfl⟩ := hS.form 0 rfl
      refine seq_yl hF (wn_none rfl) rfl rfl (yl_assign hF rfl rfl) ?_
      clear hF; intro a hF
      refine seq_yl hF (wn_none rfl) rfl rfl (yl_assign hF rfl rfl) ?_
      clear hF; intro a hF
      refine wpList_nil ?_
      refine then_n ?_
      refine wp_ret ?_
      refine ret_tt hF rfl rfl rfl ?_
      exact ⟨_, rfl, _, _, _, rfl, by first | exact rem_e (by omega) | exact rem_no (by omega) (has_no (by omega)) | exact rem_yes (by omega) hi hil, (hS.sub [0] (by decide) (by first | rfl | simp) (by simp))⟩

set_option maxRecDepth 100000 in
theorem again_any (v : Value) (L : List E44) (t u : Int) (w0 : World) (hv : Rd w0 2 v (L).length (cells enc44 (L))) (hL : L.length ≤ 1000000) :
    Fn Try.prog 13 #[v, .int .i64 t, .int .i64 u] w0 (fun v w' => ∃ (v1 : Value) (L1 : List E44) (e : Int), v = .tuple #[v1, .int .i64 e] ∧ againF L t u = (L1, e) ∧ Sat w0 w' [.row 44 2 v1 (L1).length (cells enc44 (L1))]) := by
  obtain ⟨Av, cv, rfl⟩ := Rd.form hv
  refine c_enter (N := 36) (l := [_, _, _]) Try.func13 rfl rfl (fun a w hF hS => ?_)
  replace hS := hS.addRo hv
  refine c_seq ?_
  refine c_region ?_
  refine seq_yl hF (wn_none rfl) rfl rfl (yl_assign hF rfl rfl) ?_
  clear hF; intro a hF
  refine seq_yl hF (wn_none rfl) rfl rfl (yl_assign hF rfl rfl) ?_
  clear hF; intro a hF
  refine wpList_nil ?_
  refine then_n ?_
  refine c_seq ?_
  refine c_seq ?_
  refine c_region ?_
  refine seq_yl hF (wn_none rfl) rfl rfl (yl_move hF rfl rfl) ?_
  clear hF; intro a hF
  refine seq_yl hF (wn_none rfl) rfl rfl (yl_move hF rfl rfl) ?_
  clear hF; intro a hF
  refine seq_yl hF (wn_none rfl) rfl rfl (yl_move hF rfl rfl) ?_
  clear hF; intro a hF
  refine seq_wp (wn_none rfl) (wp_call (vs := [_, _, _]) hF rfl rfl rfl rfl cf26 (late_any _ L (t) (u) _ (hS.rdRo 0 rfl) (by first | omega | (simp; done) | (simp; omega))) ?_)
  clear hF; rintro _ w ⟨rfl, hS1⟩ a hF
  replace hS := hS.callB hS1 rfl; clear hS1
  refine seq_yl hF (wn_none rfl) rfl rfl (yl_assign hF rfl rfl) ?_
  clear hF; intro a hF
  refine wpList_nil ?_
  refine then_n ?_
  refine c_seq ?_
  refine c_region ?_
  refine seq_yl hF (wn_none rfl) rfl rfl (yl_move hF rfl rfl) ?_
  clear hF; intro a hF
  refine seq_yl hF (wn_none rfl) rfl rfl (yl_bin hF rfl rfl rfl rfl (fun _ => run_neq)) ?_
  clear hF; intro a hF
  refine wpList_nil ?_
  refine then_n ?_
  refine c_cond hF rfl (fun hc83 => ?_) (fun hc83 => ?_)
  · first | (replace hc83 := of_decide_eq_true hc83) | (replace hc83 := of_decide_eq_false (bnot_t hc83)) | (subst hc83) | (replace hc83 := bnot_t hc83; subst hc83) | (replace hc83 := bnot_t hc83) | skip
    refine c_seq ?_
    refine c_region ?_
    refine seq_yl hF (wn_none rfl) rfl rfl (yl_move hF rfl rfl) ?_
    clear hF; intro a hF
    refine seq_wp (wn_none rfl) (wp_call (vs := [_]) hF rfl rfl rfl rfl cf25 (cloneD_any _ _ _ (hS.rdRo 0 rfl) (by first | omega | (simp; done) | (simp; omega))) ?_)
    clear hF; rintro _ w ⟨v84, rfl, hS1⟩ a hF
    replace hS := hS.callB hS1 rfl; clear hS1
    obtain ⟨Av84, cv84, rfl⟩ := hS.form 0 rfl
    refine seq_yl hF (wn_none rfl) rfl rfl (yl_move hF rfl rfl) ?_
    clear hF; intro a hF
    refine seq_yl hF (wn_none rfl) rfl rfl (yl_assign hF rfl rfl) ?_
    clear hF; intro a hF
    refine seq_yl hF (wn_none rfl) rfl rfl (yl_assign hF rfl rfl) ?_
    clear hF; intro a hF
    refine wpList_nil ?_
    refine then_n ?_
    refine wp_ret ?_
    refine then_r ?_
    refine ret_tt hF rfl rfl rfl ?_
    exact ⟨_, rfl, _, _, _, rfl, by first | exact ag_e (by omega) | exact ag_1 (by omega) rfl (by omega) | exact ag_2 (by omega) rfl (by omega), (hS.sub [0] (by decide) (by first | rfl | simp) (by simp))⟩
  · first | (replace hc83 := of_decide_eq_false hc83) | (replace hc83 := of_decide_eq_true (bnot_f hc83)) | (subst hc83) | (replace hc83 := bnot_f hc83; subst hc83) | (replace hc83 := bnot_f hc83) | skip
    refine wp_skip ?_
    refine then_n ?_
    refine c_seq ?_
    refine c_region ?_
    refine seq_yl hF (wn_none rfl) rfl rfl (yl_move hF rfl rfl) ?_
    clear hF; intro a hF
    refine seq_yl hF (wn_none rfl) rfl rfl (yl_move hF rfl rfl) ?_
    clear hF; intro a hF
    refine seq_wp (wn_none rfl) (wp_call (vs := [_, _]) hF rfl rfl rfl rfl cf11 (remove_any _ L (t) _ (hS.rdRo 0 rfl) (by first | omega | (simp; done) | (simp; omega))) ?_)
    clear hF; rintro _ w ⟨v85, L86, e87, rfl, hp88, hS1⟩ a hF
    replace hS := hS.callB hS1 rfl; clear hS1
    obtain ⟨Av85, cv85, rfl⟩ := hS.form 0 rfl
    have hlhp88 := rem_len hp88
    refine seq_yl hF (wn_none rfl) rfl rfl (yl_move hF rfl rfl) ?_
    clear hF; intro a hF
    refine seq_yl hF (wn_none rfl) rfl rfl (yl_extract hF rfl rfl rfl) ?_
    clear hF; intro a hF
    refine seq_yl hF (wn_none rfl) rfl rfl (yl_extract hF rfl rfl rfl) ?_
    clear hF; intro a hF
    refine seq_yl hF (wn_none rfl) rfl rfl (yl_assign hF rfl rfl) ?_
    clear hF; intro a hF
    refine seq_yl hF (wn_none rfl) rfl rfl (yl_assign hF rfl rfl) ?_
    clear hF; intro a hF
    refine wpList_nil ?_
    refine then_n ?_
    refine c_seq ?_
    refine c_seq ?_
    refine c_region ?_
    refine seq_yl hF (wn_none rfl) rfl rfl (yl_move hF rfl rfl) ?_
    clear hF; intro a hF
    refine seq_yl hF (wn_none rfl) rfl rfl (yl_bin hF rfl rfl rfl rfl (fun _ => run_neq)) ?_
    clear hF; intro a hF
    refine wpList_nil ?_
    refine then_n ?_
    refine c_cond hF rfl (fun hc89 => ?_) (fun hc89 => ?_)
    · first | (replace hc89 := of_decide_eq_true hc89) | (replace hc89 := of_decide_eq_false (bnot_t hc89)) | (subst hc89) | (replace hc89 := bnot_t hc89; subst hc89) | (replace hc89 := bnot_t hc89) | skip
      refine c_seq ?_
      refine c_region ?_
      refine seq_yl hF (wn_none rfl) rfl rfl (yl_move hF rfl rfl) ?_
      clear hF; intro a hF
      refine seq_yl hF (wn_none rfl) rfl rfl (yl_move hF rfl rfl) ?_
      clear hF; intro a hF
      refine seq_yl hF (wn_none rfl) rfl rfl (yl_assign hF rfl rfl) ?_
      clear hF; intro a hF
      refine seq_yl hF (wn_none rfl) rfl rfl (yl_assign hF rfl rfl) ?_
      clear hF; intro a hF
      refine wpList_nil ?_
      refine then_n ?_
      refine wp_ret ?_
      refine then_r ?_
      refine ret_tt hF rfl rfl rfl ?_
      exact ⟨_, rfl, _, _, _, rfl, by first | exact ag_e (by omega) | exact ag_1 (by omega) hp88 (by omega) | exact ag_2 (by omega) hp88 (by omega), (hS.sub [0] (by decide) (by first | rfl | simp) (by simp))⟩
    · first | (replace hc89 := of_decide_eq_false hc89) | (replace hc89 := of_decide_eq_true (bnot_f hc89)) | (subst hc89) | (replace hc89 := bnot_f hc89; subst hc89) | (replace hc89 := bnot_f hc89) | skip
      refine wp_skip ?_
      refine then_n ?_
      refine c_seq ?_
      refine c_region ?_
      refine seq_yl hF (wn_none rfl) rfl rfl (yl_move hF rfl rfl) ?_
      clear hF; intro a hF
      refine seq_yl hF (wn_none rfl) rfl rfl (yl_move hF rfl rfl) ?_
      clear hF; intro a hF
      refine seq_yl hF (wn_none rfl) rfl rfl (yl_move hF rfl rfl) ?_
      clear hF; intro a hF
      refine seq_yl hF (wn_none rfl) rfl rfl (yl_build (parts := [(0, .tmp 31), (1, .tmp 32)]) (vs := [(0, _), (1, _)]) (cs := [_, _]) hF bd44 rfl rfl rfl rfl) ?_
      clear hF; intro a hF
      refine seq_wp (wn_none rfl) (wp_bslice (parts := [(0, .tmp 33)]) (vs := [(0, _)]) (enc := enc44) (e := 44) (size := 2) (cs := #[.int .i64 (t), .int .i64 (u)]) hF hS rfl rfl rfl rfl ([(E44.mk (t) (u))] : List E44) (fun w => by kernel_rfl) rfl rfl rfl (by decide) ?_)
      clear hF hS; intro a w v90 hF hS
      obtain ⟨Av90, cv90, rfl⟩ := hS.form 0 rfl
      refine seq_wp (wn_none rfl) (wp_app (enc := enc44) hF hS rfl rfl rfl rfl rfl 1 rfl sl26 inf44 rfl (by decide) (hS.rdRow 0 rfl) enc44_one (by decide) (by first | omega | (simp only [List.length_append, List.length_cons, List.length_nil]; omega) | (simp; omega)) ?_)
      clear hF hS; intro a w v91 hF hS
      obtain ⟨Av91, cv91, rfl⟩ := hS.form 1 rfl
      refine seq_yl hF (wn_none rfl) rfl rfl (yl_assign hF rfl rfl) ?_
      clear hF; intro a hF
      refine seq_yl hF (wn_none rfl) rfl rfl (yl_assign hF rfl rfl) ?_
      clear hF; intro a hF
      refine wpList_nil ?_
      refine then_n ?_
      refine wp_ret ?_
      refine ret_tt hF rfl rfl rfl ?_
      exact ⟨_, rfl, _, _, _, rfl, by first | exact ag_e (by omega) | exact ag_1 (by omega) hp88 (by omega) | exact ag_2 (by omega) hp88 (by omega), (hS.sub [1] (by decide) (by first | rfl | simp) (by simp))⟩

end Go.Proofs.Ytffaminjbcfojaa

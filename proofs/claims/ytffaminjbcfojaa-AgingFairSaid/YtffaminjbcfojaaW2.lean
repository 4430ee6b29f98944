/- walks, printed by wip/gen -/
import Derived.Test.YtffaminjbcfojaaW1
namespace Go.Proofs.Ytffaminjbcfojaa
open Go.RowKit
set_option linter.unusedVariables false
set_option linter.unusedSimpArgs false

set_option maxHeartbeats 1000000 in
set_option maxRecDepth 100000 in
theorem check1 (v : Value) (L : List E44) (w0 : World) (hv : Rd w0 2 v (L).length (cells enc44 (L))) (hL : L.length ≤ 1000000) :
    Fn Try.prog 19 #[v] w0 (fun v w' => v = .bool (decide (okA L)) ∧ Sat w0 w' []) := by
  obtain ⟨Av, cv, rfl⟩ := Rd.form hv
  refine c_enter (N := 40) (l := [_]) Try.func19 rfl rfl (fun a w hF hS => ?_)
  replace hS := hS.addRo hv
  refine c_seq ?_
  refine c_region ?_
  refine seq_yl hF (wn_none rfl) rfl rfl (yl_assign hF rfl rfl) ?_
  clear hF; intro a hF
  refine wpList_nil ?_
  refine then_n ?_
  refine c_seq ?_
  refine c_region ?_
  refine seq_yl hF (wn_none rfl) rfl rfl (yl_assign hF rfl rfl) ?_
  clear hF; intro a hF
  refine wpList_nil ?_
  refine then_n ?_
  refine c_seq ?_
  refine c_seq ?_
  refine c_region ?_
  refine seq_yl hF (wn_none rfl) rfl rfl (yl_move hF rfl rfl) ?_
  clear hF; intro a hF
  refine seq_yl hF (wn_none rfl) rfl rfl (yl_len hF rfl rfl (fun _ => run_lenRd sl26 (hS.rdRo 0 rfl))) ?_
  clear hF; intro a hF
  refine seq_yl hF (wn_none rfl) rfl rfl (yl_move hF rfl rfl) ?_
  clear hF; intro a hF
  refine wpList_nil ?_
  refine then_n ?_
  refine wp_block ?_
  refine c_loop (fun m a w => ∃ (k : Nat) (last : Int), m = L.length - k ∧ (k ≤ L.length ∧ okA (L.take k) ∧ (∀ y ∈ L.take k, y.f1 ≤ last) ∧ (last = 0 ∨ ∃ y ∈ L.take k, y.f1 = last)) ∧ Fr 40 a [(0, .slice Av (L).length cv), (3, .int .i64 (last)), (6, .slice Av (L).length cv), (7, .int .i64 (((L).length : Nat) : Int)), (8, .int .i64 ((k : Nat) : Int))] ∧ Sat w0 w (.ro 2 (.slice Av (L).length cv) (L).length (cells enc44 (L)) :: [])) (L.length - 0) ?_ ?_
  · exact ⟨0, 0, rfl, ⟨Nat.zero_le _, ⟨by simp, by simp⟩, by simp, .inl rfl⟩, hF.to [0, 3, 6, 7, 8] rfl, (hS.sub [0] (by decide) (by first | rfl | simp) (by simp))⟩
  · clear hF hS; try clear hSS
    clear a w; rintro m a w ⟨k, last, rfl, hinv, hF, hS⟩
    obtain ⟨hk, hok, hle, hla⟩ := hinv
    refine c_seq ?_
    refine c_region ?_
    refine seq_yl hF (wn_none rfl) rfl rfl (yl_bin hF rfl rfl rfl rfl (fun _ => run_lss)) ?_
    clear hF; intro a hF
    refine wpList_nil ?_
    refine then_n ?_
    refine c_seq ?_
    refine c_cond hF rfl (fun hc13 => ?_) (fun hc13 => ?_)
    · first | (replace hc13 := of_decide_eq_true hc13) | (replace hc13 := of_decide_eq_false (bnot_t hc13)) | (subst hc13) | (replace hc13 := bnot_t hc13; subst hc13) | (replace hc13 := bnot_t hc13) | skip
      refine wp_skip ?_
      refine then_n ?_
      refine c_seq ?_
      refine wp_block ?_
      refine c_seq ?_
      refine c_region ?_
      refine seq_yl hF (wn_none rfl) rfl rfl (yl_move hF rfl rfl) ?_
      clear hF; intro a hF
      have hlt_hx14 : k < (L).length := by first | omega | (simp; done) | (simp; omega)
      obtain ⟨ad15, rfl⟩ := rd_some (hS.rdRo 0 rfl) hlt_hx14
      obtain ⟨x14, hx14⟩ := get_some hlt_hx14
      refine seq_yl hF (wn_none rfl) rfl rfl (yl_indexAddr hF rfl rfl rfl (fun _ => run_idx' sl26 sz44 (hS.rdRo 0 rfl) hlt_hx14)) ?_
      clear hF; intro a hF
      refine seq_yl hF (wn_none rfl) rfl rfl (yl_loadEl (rs := [.int .i64 (x14.f0), .int .i64 (x14.f1)]) hF rfl rfl ag44 sz44 rfl (fun _ h => rd_cells (enc := enc44) (by subst h; exact hS.rdRo 0 rfl) enc44_len hx14)) ?_
      clear hF; intro a hF
      refine seq_wp (wn_none rfl) (wp_alloc (cs := #[_, _]) hF hS rfl rfl rfl zr44 rfl ?_)
      clear hF hS; intro a w g16 hF hS
      refine seq_yl hF (wn_none rfl) rfl rfl (yl_assign hF rfl rfl) ?_
      clear hF; intro a hF
      refine seq_wp (wn_none rfl) (wp_store (cs' := #[_, _]) hF hS rfl rfl rfl rfl 0 rfl sz44 (by simp [Value.cells, Value.oneCell']) (by simp [Value.cells]) rfl ?_)
      clear hF hS; intro a w hF hS
      refine wpList_nil ?_
      refine then_n ?_
      refine c_seq ?_
      refine c_seq ?_
      refine c_region ?_
      refine seq_yl hF (wn_none rfl) rfl rfl (yl_fieldAddr hF rfl rfl (fun w => by kernel_rfl : ∀ w, (Instr.fieldAt 44 (.pointer (some ⟨g16, 0, none⟩)) 0).run Try.prog w = .ok (.pointer (some ⟨g16, 0, none⟩)) w)) ?_
      clear hF; intro a hF
      refine seq_yl hF (wn_none rfl) rfl rfl (yl_load (fun _ h => h ▸ hS) hF rfl rfl 0 rfl ag3 rfl) ?_
      clear hF; intro a hF
      refine seq_wp (wn_none rfl) (wp_call (vs := [_]) hF rfl rfl rfl rfl cf34 (known_any (x14.f0) _) ?_)
      clear hF; rintro _ w ⟨rfl, hS1⟩ a hF
      replace hS := hS.callB hS1 rfl; clear hS1
      refine seq_yl hF (wn_none rfl) rfl rfl (yl_un hF rfl rfl (fun _ => run_not)) ?_
      clear hF; intro a hF
      refine seq_yl hF (wn_none rfl) rfl rfl (yl_move hF rfl rfl) ?_
      clear hF; intro a hF
      refine fr_split hF (fun hc17 hF => ?_) (fun hc17 hF => ?_)
      · first | (replace hc17 := of_decide_eq_true hc17) | (replace hc17 := of_decide_eq_false (bnot_t hc17)) | (subst hc17) | (replace hc17 := bnot_t hc17; subst hc17) | (replace hc17 := bnot_t hc17) | skip
        refine seq_skip hF (wn_f hF rfl rfl rfl rfl) rfl rfl ?_
        clear hF; intro a hF
        refine seq_skip hF (wn_f hF rfl rfl rfl rfl) rfl rfl ?_
        clear hF; intro a hF
        refine seq_skip hF (wn_f hF rfl rfl rfl rfl) rfl rfl ?_
        clear hF; intro a hF
        refine seq_skip hF (wn_f hF rfl rfl rfl rfl) rfl rfl ?_
        clear hF; intro a hF
        refine seq_skip hF (wn_f hF rfl rfl rfl rfl) rfl rfl ?_
        clear hF; intro a hF
        refine seq_skip hF (wn_f hF rfl rfl rfl rfl) rfl rfl ?_
        clear hF; intro a hF
        refine seq_yl hF (wn_none rfl) rfl rfl (yl_pick (u := _) (v := undef) hF rfl rfl (fun _ => rfl) (fun h => by cases h)) ?_
        clear hF; intro a hF
        refine seq_yl hF (wn_none rfl) rfl rfl (yl_move hF rfl rfl) ?_
        clear hF; intro a hF
        refine seq_skip hF (wn_f hF rfl rfl rfl rfl) rfl rfl ?_
        clear hF; intro a hF
        refine seq_skip hF (wn_f hF rfl rfl rfl rfl) rfl rfl ?_
        clear hF; intro a hF
        refine seq_skip hF (wn_f hF rfl rfl rfl rfl) rfl rfl ?_
        clear hF; intro a hF
        refine seq_skip hF (wn_f hF rfl rfl rfl rfl) rfl rfl ?_
        clear hF; intro a hF
        refine seq_yl hF (wn_none rfl) rfl rfl (yl_pick (u := _) (v := undef) hF rfl rfl (fun _ => rfl) (fun h => by cases h)) ?_
        clear hF; intro a hF
        refine seq_yl hF (wn_none rfl) rfl rfl (yl_move hF rfl rfl) ?_
        clear hF; intro a hF
        refine seq_skip hF (wn_f hF rfl rfl rfl rfl) rfl rfl ?_
        clear hF; intro a hF
        refine seq_skip hF (wn_f hF rfl rfl rfl rfl) rfl rfl ?_
        clear hF; intro a hF
        refine seq_skip hF (wn_f hF rfl rfl rfl rfl) rfl rfl ?_
        clear hF; intro a hF
        refine seq_skip hF (wn_f hF rfl rfl rfl rfl) rfl rfl ?_
        clear hF; intro a hF
        refine seq_yl hF (wn_none rfl) rfl rfl (yl_pick (u := _) (v := undef) hF rfl rfl (fun _ => rfl) (fun h => by cases h)) ?_
        clear hF; intro a hF
        refine wpList_nil ?_
        refine then_n ?_
        refine c_cond_t hF rfl ?_
        refine c_seq ?_
        refine c_region ?_
        refine seq_yl hF (wn_none rfl) rfl rfl (yl_assign hF rfl rfl) ?_
        clear hF; intro a hF
        refine wpList_nil ?_
        refine then_n ?_
        refine wp_ret ?_
        refine then_r ?_
        refine inb_r ?_
        refine then_r ?_
        refine then_r ?_
        refine inb_r ?_
        refine then_r ?_
        refine ret_t hF rfl rfl ?_
        exact ⟨_, rfl, congrArg Value.bool (by first | exact dec_f (okA_no1 hx14 (by unfold fok; omega)) | exact dec_f (okA_no3 hx14 (by omega)) | exact dec_f (okA_no4 hx14 hla (by omega) (by omega))), (hS.sub [] (by decide) (by first | rfl | simp) (by simp))⟩
      · first | (replace hc17 := of_decide_eq_false hc17) | (replace hc17 := of_decide_eq_true (bnot_f hc17)) | (subst hc17) | (replace hc17 := bnot_f hc17; subst hc17) | (replace hc17 := bnot_f hc17) | skip
        refine seq_yl hF (wn_t hF rfl rfl rfl rfl) rfl rfl (yl_move hF rfl rfl) ?_
        clear hF; intro a hF
        refine seq_yl hF (wn_t hF rfl rfl rfl rfl) rfl rfl (yl_fieldAddr hF rfl rfl (fun w => by kernel_rfl : ∀ w, (Instr.fieldAt 44 (.pointer (some ⟨g16, 0, none⟩)) 0).run Try.prog w = .ok (.pointer (some ⟨g16, 0, none⟩)) w)) ?_
        clear hF; intro a hF
        refine seq_yl hF (wn_t hF rfl rfl rfl rfl) rfl rfl (yl_load (fun _ h => h ▸ hS) hF rfl rfl 0 rfl ag3 rfl) ?_
        clear hF; intro a hF
        refine seq_wp (wn_t hF rfl rfl rfl rfl) (wp_call (vs := [_, _]) hF rfl rfl rfl rfl cf27 (find_any _ L (x14.f0) _ (hS.rdRo 1 rfl) (by first | omega | (simp; done) | (simp; omega))) ?_)
        clear hF; rintro _ w ⟨rfl, hS1⟩ a hF
        replace hS := hS.callB hS1 rfl; clear hS1
        refine seq_yl hF (wn_t hF rfl rfl rfl rfl) rfl rfl (yl_move hF rfl rfl) ?_
        clear hF; intro a hF
        refine seq_yl hF (wn_t hF rfl rfl rfl rfl) rfl rfl (yl_bin hF rfl rfl rfl rfl (fun _ => run_lss)) ?_
        clear hF; intro a hF
        refine seq_yl hF (wn_none rfl) rfl rfl (yl_pick (u := _) (v := undef) hF rfl rfl (fun h => by cases h) (fun _ => rfl)) ?_
        clear hF; intro a hF
        refine seq_yl hF (wn_none rfl) rfl rfl (yl_move hF rfl rfl) ?_
        clear hF; intro a hF
        refine fr_split hF (fun hc18 hF => ?_) (fun hc18 hF => ?_)
        · first | (replace hc18 := of_decide_eq_true hc18) | (replace hc18 := of_decide_eq_false (bnot_t hc18)) | (subst hc18) | (replace hc18 := bnot_t hc18; subst hc18) | (replace hc18 := bnot_t hc18) | skip
          refine seq_skip hF (wn_f hF rfl rfl rfl rfl) rfl rfl ?_
          clear hF; intro a hF
          refine seq_skip hF (wn_f hF rfl rfl rfl rfl) rfl rfl ?_
          clear hF; intro a hF
          refine seq_skip hF (wn_f hF rfl rfl rfl rfl) rfl rfl ?_
          clear hF; intro a hF
          refine seq_skip hF (wn_f hF rfl rfl rfl rfl) rfl rfl ?_
          clear hF; intro a hF
          refine seq_yl hF (wn_none rfl) rfl rfl (yl_pick (u := _) (v := undef) hF rfl rfl (fun _ => rfl) (fun h => by cases h)) ?_
          clear hF; intro a hF
          refine seq_yl hF (wn_none rfl) rfl rfl (yl_move hF rfl rfl) ?_
          clear hF; intro a hF
          refine seq_skip hF (wn_f hF rfl rfl rfl rfl) rfl rfl ?_
          clear hF; intro a hF
          refine seq_skip hF (wn_f hF rfl rfl rfl rfl) rfl rfl ?_
          clear hF; intro a hF
          refine seq_skip hF (wn_f hF rfl rfl rfl rfl) rfl rfl ?_
          clear hF; intro a hF
          refine seq_skip hF (wn_f hF rfl rfl rfl rfl) rfl rfl ?_
          clear hF; intro a hF
          refine seq_yl hF (wn_none rfl) rfl rfl (yl_pick (u := _) (v := undef) hF rfl rfl (fun _ => rfl) (fun h => by cases h)) ?_
          clear hF; intro a hF
          refine wpList_nil ?_
          refine then_n ?_
          refine c_cond_t hF rfl ?_
          refine c_seq ?_
          refine c_region ?_
          refine seq_yl hF (wn_none rfl) rfl rfl (yl_assign hF rfl rfl) ?_
          clear hF; intro a hF
          refine wpList_nil ?_
          refine then_n ?_
          refine wp_ret ?_
          refine then_r ?_
          refine inb_r ?_
          refine then_r ?_
          refine then_r ?_
          refine inb_r ?_
          refine then_r ?_
          refine ret_t hF rfl rfl ?_
          exact ⟨_, rfl, congrArg Value.bool (by first | exact dec_f (okA_no1 hx14 (by unfold fok; omega)) | exact dec_f (okA_no3 hx14 (by omega)) | exact dec_f (okA_no4 hx14 hla (by omega) (by omega))), (hS.sub [] (by decide) (by first | rfl | simp) (by simp))⟩
        · first | (replace hc18 := of_decide_eq_false hc18) | (replace hc18 := of_decide_eq_true (bnot_f hc18)) | (subst hc18) | (replace hc18 := bnot_f hc18; subst hc18) | (replace hc18 := bnot_f hc18) | skip
          refine seq_yl hF (wn_t hF rfl rfl rfl rfl) rfl rfl (yl_fieldAddr hF rfl rfl (fun w => by kernel_rfl : ∀ w, (Instr.fieldAt 44 (.pointer (some ⟨g16, 0, none⟩)) 1).run Try.prog w = .ok (.pointer (some ⟨g16, 1, none⟩)) w)) ?_
          clear hF; intro a hF
          refine seq_yl hF (wn_t hF rfl rfl rfl rfl) rfl rfl (yl_load (fun _ h => h ▸ hS) hF rfl rfl 0 rfl ag3 rfl) ?_
          clear hF; intro a hF
          refine seq_wp (wn_t hF rfl rfl rfl rfl) (wp_call (vs := [_]) hF rfl rfl rfl rfl cf33 (tick_any (x14.f1) _) ?_)
          clear hF; rintro _ w ⟨rfl, hS1⟩ a hF
          replace hS := hS.callB hS1 rfl; clear hS1
          refine seq_yl hF (wn_t hF rfl rfl rfl rfl) rfl rfl (yl_un hF rfl rfl (fun _ => run_not)) ?_
          clear hF; intro a hF
          refine seq_yl hF (wn_none rfl) rfl rfl (yl_pick (u := _) (v := undef) hF rfl rfl (fun h => by cases h) (fun _ => rfl)) ?_
          clear hF; intro a hF
          refine seq_yl hF (wn_none rfl) rfl rfl (yl_move hF rfl rfl) ?_
          clear hF; intro a hF
          refine fr_split hF (fun hc19 hF => ?_) (fun hc19 hF => ?_)
          · first | (replace hc19 := of_decide_eq_true hc19) | (replace hc19 := of_decide_eq_false (bnot_t hc19)) | (subst hc19) | (replace hc19 := bnot_t hc19; subst hc19) | (replace hc19 := bnot_t hc19) | skip
            refine seq_skip hF (wn_f hF rfl rfl rfl rfl) rfl rfl ?_
            clear hF; intro a hF
            refine seq_skip hF (wn_f hF rfl rfl rfl rfl) rfl rfl ?_
            clear hF; intro a hF
            refine seq_skip hF (wn_f hF rfl rfl rfl rfl) rfl rfl ?_
            clear hF; intro a hF
            refine seq_skip hF (wn_f hF rfl rfl rfl rfl) rfl rfl ?_
            clear hF; intro a hF
            refine seq_yl hF (wn_none rfl) rfl rfl (yl_pick (u := _) (v := undef) hF rfl rfl (fun _ => rfl) (fun h => by cases h)) ?_
            clear hF; intro a hF
            refine wpList_nil ?_
            refine then_n ?_
            refine c_cond_t hF rfl ?_
            refine c_seq ?_
            refine c_region ?_
            refine seq_yl hF (wn_none rfl) rfl rfl (yl_assign hF rfl rfl) ?_
            clear hF; intro a hF
            refine wpList_nil ?_
            refine then_n ?_
            refine wp_ret ?_
            refine then_r ?_
            refine inb_r ?_
            refine then_r ?_
            refine then_r ?_
            refine inb_r ?_
            refine then_r ?_
            refine ret_t hF rfl rfl ?_
            exact ⟨_, rfl, congrArg Value.bool (by first | exact dec_f (okA_no1 hx14 (by unfold fok; omega)) | exact dec_f (okA_no3 hx14 (by omega)) | exact dec_f (okA_no4 hx14 hla (by omega) (by omega))), (hS.sub [] (by decide) (by first | rfl | simp) (by simp))⟩
          · first | (replace hc19 := of_decide_eq_false hc19) | (replace hc19 := of_decide_eq_true (bnot_f hc19)) | (subst hc19) | (replace hc19 := bnot_f hc19; subst hc19) | (replace hc19 := bnot_f hc19) | skip
            refine seq_yl hF (wn_t hF rfl rfl rfl rfl) rfl rfl (yl_fieldAddr hF rfl rfl (fun w => by kernel_rfl : ∀ w, (Instr.fieldAt 44 (.pointer (some ⟨g16, 0, none⟩)) 1).run Try.prog w = .ok (.pointer (some ⟨g16, 1, none⟩)) w)) ?_
            clear hF; intro a hF
            refine seq_yl hF (wn_t hF rfl rfl rfl rfl) rfl rfl (yl_load (fun _ h => h ▸ hS) hF rfl rfl 0 rfl ag3 rfl) ?_
            clear hF; intro a hF
            refine seq_yl hF (wn_t hF rfl rfl rfl rfl) rfl rfl (yl_move hF rfl rfl) ?_
            clear hF; intro a hF
            refine seq_yl hF (wn_t hF rfl rfl rfl rfl) rfl rfl (yl_bin hF rfl rfl rfl rfl (fun _ => run_lss)) ?_
            clear hF; intro a hF
            refine seq_yl hF (wn_none rfl) rfl rfl (yl_pick (u := _) (v := undef) hF rfl rfl (fun h => by cases h) (fun _ => rfl)) ?_
            clear hF; intro a hF
            refine wpList_nil ?_
            refine then_n ?_
            refine c_cond hF rfl (fun hc20 => ?_) (fun hc20 => ?_)
            · first | (replace hc20 := of_decide_eq_true hc20) | (replace hc20 := of_decide_eq_false (bnot_t hc20)) | (subst hc20) | (replace hc20 := bnot_t hc20; subst hc20) | (replace hc20 := bnot_t hc20) | skip
              refine c_seq ?_
              refine c_region ?_
              refine seq_yl hF (wn_none rfl) rfl rfl (yl_assign hF rfl rfl) ?_
              clear hF; intro a hF
              refine wpList_nil ?_
              refine then_n ?_
              refine wp_ret ?_
              refine then_r ?_
              refine inb_r ?_
              refine then_r ?_
              refine then_r ?_
              refine inb_r ?_
              refine then_r ?_
              refine ret_t hF rfl rfl ?_
              exact ⟨_, rfl, congrArg Value.bool (by first | exact dec_f (okA_no1 hx14 (by unfold fok; omega)) | exact dec_f (okA_no3 hx14 (by omega)) | exact dec_f (okA_no4 hx14 hla (by omega) (by omega))), (hS.sub [] (by decide) (by first | rfl | simp) (by simp))⟩
            · first | (replace hc20 := of_decide_eq_false hc20) | (replace hc20 := of_decide_eq_true (bnot_f hc20)) | (subst hc20) | (replace hc20 := bnot_f hc20; subst hc20) | (replace hc20 := bnot_f hc20) | skip
              refine wp_skip ?_
              refine then_n ?_
              refine c_region ?_
              refine seq_yl hF (wn_none rfl) rfl rfl (yl_fieldAddr hF rfl rfl (fun w => by kernel_rfl : ∀ w, (Instr.fieldAt 44 (.pointer (some ⟨g16, 0, none⟩)) 1).run Try.prog w = .ok (.pointer (some ⟨g16, 1, none⟩)) w)) ?_
              clear hF; intro a hF
              refine seq_yl hF (wn_none rfl) rfl rfl (yl_load (fun _ h => h ▸ hS) hF rfl rfl 0 rfl ag3 rfl) ?_
              clear hF; intro a hF
              refine seq_yl hF (wn_none rfl) rfl rfl (yl_assign hF rfl rfl) ?_
              clear hF; intro a hF
              refine wpList_nil ?_
              refine inb_n ?_
              refine then_n ?_
              refine c_region ?_
              refine seq_yl hF (wn_none rfl) rfl rfl (yl_bin hF rfl rfl rfl rfl (fun _ => run_inc (by omega))) ?_
              clear hF; intro a hF
              refine seq_yl hF (wn_none rfl) rfl rfl (yl_move hF rfl rfl) ?_
              clear hF; intro a hF
              refine wpList_nil ?_
              refine then_n ?_
              exact ⟨_, (by omega), k + 1, x14.f1, rfl, ⟨by omega, okA_step hx14 hok (by unfold fok; omega) (fun y hy => ⟨by have := hle y hy; omega, idx_ge (by omega) y hy⟩), tk_all hx14 (fun y hy => by have := hle y hy; omega) (by omega), .inr ⟨_, tk_mem hx14, rfl⟩⟩, hF.to [0, 3, 6, 7, 8] rfl, (hS.sub [1] (by decide) (by first | rfl | simp) (by simp))⟩
    · first | (replace hc13 := of_decide_eq_false hc13) | (replace hc13 := of_decide_eq_true (bnot_f hc13)) | (subst hc13) | (replace hc13 := bnot_f hc13; subst hc13) | (replace hc13 := bnot_f hc13) | skip
      refine wp_exit ?_
      refine then_x ?_
      refine then_x ?_
      refine inb_x ?_
      refine then_n ?_
      refine c_seq ?_
      refine c_region ?_
      refine seq_yl hF (wn_none rfl) rfl rfl (yl_assign hF rfl rfl) ?_
      clear hF; intro a hF
      refine wpList_nil ?_
      refine then_n ?_
      refine wp_ret ?_
      refine ret_t hF rfl rfl ?_
      exact ⟨_, rfl, congrArg Value.bool (dec_t (okA_all hok (by omega))), (hS.sub [] (by decide) (by first | rfl | simp) (by simp))⟩

set_option maxHeartbeats 1000000 in
set_option maxRecDepth 100000 in
theorem check2 (v : Value) (L : List E44) (w0 : World) (hv : Rd w0 2 v (L).length (cells enc44 (L))) (hL : L.length ≤ 1000000) :
    Fn Try.prog 20 #[v] w0 (fun v w' => v = .bool (decide (okA L)) ∧ Sat w0 w' []) := by
  obtain ⟨Av, cv, rfl⟩ := Rd.form hv
  refine c_enter (N := 75) (l := [_]) Try.func20 rfl rfl (fun a w hF hS => ?_)
  replace hS := hS.addRo hv
  refine c_seq ?_
  refine c_region ?_
  refine seq_yl hF (wn_none rfl) rfl rfl (yl_assign hF rfl rfl) ?_
  clear hF; intro a hF
  refine wpList_nil ?_
  refine then_n ?_
  refine c_seq ?_
  refine c_seq ?_
  refine c_region ?_
  refine seq_yl hF (wn_none rfl) rfl rfl (yl_assign hF rfl rfl) ?_
  clear hF; intro a hF
  refine wpList_nil ?_
  refine then_n ?_
  refine wp_block ?_
  refine c_loop (fun m a w => ∃ (i : Nat), m = L.length - i ∧ (i ≤ L.length ∧ okA (L.take i)) ∧ Fr 75 a [(0, .slice Av (L).length cv), (3, .int .i64 ((i : Nat) : Int))] ∧ Sat w0 w (.ro 2 (.slice Av (L).length cv) (L).length (cells enc44 (L)) :: [])) (L.length - 0) ?_ ?_
  · exact ⟨0, rfl, ⟨Nat.zero_le _, by simp, by simp⟩, hF.to [0, 3] rfl, (hS.sub [0] (by decide) (by first | rfl | simp) (by simp))⟩
  · clear hF hS; try clear hSS
    clear a w; rintro m a w ⟨i, rfl, hinv, hF, hS⟩
    obtain ⟨hi, hok⟩ := hinv
    refine c_seq ?_
    refine c_seq ?_
    refine c_region ?_
    refine seq_yl hF (wn_none rfl) rfl rfl (yl_move hF rfl rfl) ?_
    clear hF; intro a hF
    refine seq_yl hF (wn_none rfl) rfl rfl (yl_move hF rfl rfl) ?_
    clear hF; intro a hF
    refine seq_yl hF (wn_none rfl) rfl rfl (yl_len hF rfl rfl (fun _ => run_lenRd sl26 (hS.rdRo 0 rfl))) ?_
    clear hF; intro a hF
    refine seq_yl hF (wn_none rfl) rfl rfl (yl_bin hF rfl rfl rfl rfl (fun _ => run_lss)) ?_
    clear hF; intro a hF
    refine wpList_nil ?_
    refine then_n ?_
    refine c_cond hF rfl (fun hc21 => ?_) (fun hc21 => ?_)
    · first | (replace hc21 := of_decide_eq_true hc21) | (replace hc21 := of_decide_eq_false (bnot_t hc21)) | (subst hc21) | (replace hc21 := bnot_t hc21; subst hc21) | (replace hc21 := bnot_t hc21) | skip
      refine wp_skip ?_
      refine then_n ?_
      refine c_seq ?_
      refine wp_block ?_
      refine c_seq ?_
      refine c_seq ?_
      refine ha_startS hS [0] 48 (by kernel_rfl) ?_; clear hS; intro w hS
      have hSS := hS.sub [0] (by decide) rfl (by simp)
      refine ha_y 0 hF rfl rfl rfl (wn_none rfl) (.inr hSS) (yl_move hF rfl rfl) ?_
      clear hF; intro a hF
      refine ha_y 1 hF rfl rfl rfl (wn_none rfl) (.inr hSS) (yl_move hF rfl rfl) ?_
      clear hF; intro a hF
      have hlt_hx22 : i < (L).length := by first | omega | (simp; done) | (simp; omega)
      obtain ⟨ad23, rfl⟩ := rd_some (hS.rdRo 0 rfl) hlt_hx22
      obtain ⟨x22, hx22⟩ := get_some hlt_hx22
      refine ha_y 2 hF rfl rfl rfl (wn_none rfl) (.inr hSS) (yl_indexAddr hF rfl rfl rfl (fun _ => run_idx' sl26 sz44 (hS.rdRo 0 rfl) hlt_hx22)) ?_
      clear hF; intro a hF
      refine ha_y 3 hF rfl rfl rfl (wn_none rfl) (.inr hSS) (yl_fieldAddr hF rfl rfl (fun w => run_fa0 fo44_0)) ?_
      clear hF; intro a hF
      refine ha_l 4 hF rfl rfl rfl (wn_none rfl) hSS (yl_loadAt hF rfl rfl ag3 (fun _ h => rd_cell0 (enc := enc44) (Sat.rdRo h 0 rfl) enc44_len hx22 rfl rfl)) ?_
      clear hF; intro a hF
      refine ha_y 5 hF rfl rfl rfl (wn_none rfl) (.inr hSS) (yl_bin hF rfl rfl rfl rfl (fun _ => run_lss)) ?_
      clear hF; intro a hF
      refine ha_y 6 hF rfl rfl rfl (wn_none rfl) (.inr hSS) (yl_move hF rfl rfl) ?_
      clear hF; intro a hF
      refine fr_split hF (fun hc24 hF => ?_) (fun hc24 hF => ?_)
      · first | (replace hc24 := of_decide_eq_true hc24) | (replace hc24 := of_decide_eq_false (bnot_t hc24)) | (subst hc24) | (replace hc24 := bnot_t hc24; subst hc24) | (replace hc24 := bnot_t hc24) | skip
        refine ha_s 7 hF rfl rfl rfl (wn_f hF rfl rfl rfl rfl) (.inr hSS) ?_
        clear hF; intro a hF
        refine ha_s 8 hF rfl rfl rfl (wn_f hF rfl rfl rfl rfl) (.inr hSS) ?_
        clear hF; intro a hF
        refine ha_s 9 hF rfl rfl rfl (wn_f hF rfl rfl rfl rfl) (.inr hSS) ?_
        clear hF; intro a hF
        refine ha_s 10 hF rfl rfl rfl (wn_f hF rfl rfl rfl rfl) (.inr hSS) ?_
        clear hF; intro a hF
        refine ha_s 11 hF rfl rfl rfl (wn_f hF rfl rfl rfl rfl) (.inr hSS) ?_
        clear hF; intro a hF
        refine ha_s 12 hF rfl rfl rfl (wn_f hF rfl rfl rfl rfl) (.inr hSS) ?_
        clear hF; intro a hF
        refine ha_y 13 hF rfl rfl rfl (wn_none rfl) (.inr hSS) (yl_pick (u := _) (v := undef) hF rfl rfl (fun _ => rfl) (fun h => by cases h)) ?_
        clear hF; intro a hF
        refine ha_y 14 hF rfl rfl rfl (wn_none rfl) (.inr hSS) (yl_move hF rfl rfl) ?_
        clear hF; intro a hF
        refine ha_s 15 hF rfl rfl rfl (wn_f hF rfl rfl rfl rfl) (.inr hSS) ?_
        clear hF; intro a hF
        refine ha_s 16 hF rfl rfl rfl (wn_f hF rfl rfl rfl rfl) (.inr hSS) ?_
        clear hF; intro a hF
        refine ha_s 17 hF rfl rfl rfl (wn_f hF rfl rfl rfl rfl) (.inr hSS) ?_
        clear hF; intro a hF
        refine ha_s 18 hF rfl rfl rfl (wn_f hF rfl rfl rfl rfl) (.inr hSS) ?_
        clear hF; intro a hF
        refine ha_s 19 hF rfl rfl rfl (wn_f hF rfl rfl rfl rfl) (.inr hSS) ?_
        clear hF; intro a hF
        refine ha_s 20 hF rfl rfl rfl (wn_f hF rfl rfl rfl rfl) (.inr hSS) ?_
        clear hF; intro a hF
        refine ha_y 21 hF rfl rfl rfl (wn_none rfl) (.inr hSS) (yl_pick (u := _) (v := undef) hF rfl rfl (fun _ => rfl) (fun h => by cases h)) ?_
        clear hF; intro a hF
        refine ha_y 22 hF rfl rfl rfl (wn_none rfl) (.inr hSS) (yl_move hF rfl rfl) ?_
        clear hF; intro a hF
        refine ha_s 23 hF rfl rfl rfl (wn_f hF rfl rfl rfl rfl) (.inr hSS) ?_
        clear hF; intro a hF
        refine ha_s 24 hF rfl rfl rfl (wn_f hF rfl rfl rfl rfl) (.inr hSS) ?_
        clear hF; intro a hF
        refine ha_s 25 hF rfl rfl rfl (wn_f hF rfl rfl rfl rfl) (.inr hSS) ?_
        clear hF; intro a hF
        refine ha_s 26 hF rfl rfl rfl (wn_f hF rfl rfl rfl rfl) (.inr hSS) ?_
        clear hF; intro a hF
        refine ha_s 27 hF rfl rfl rfl (wn_f hF rfl rfl rfl rfl) (.inr hSS) ?_
        clear hF; intro a hF
        refine ha_s 28 hF rfl rfl rfl (wn_f hF rfl rfl rfl rfl) (.inr hSS) ?_
        clear hF; intro a hF
        refine ha_y 29 hF rfl rfl rfl (wn_none rfl) (.inr hSS) (yl_pick (u := _) (v := undef) hF rfl rfl (fun _ => rfl) (fun h => by cases h)) ?_
        clear hF; intro a hF
        refine ha_y 30 hF rfl rfl rfl (wn_none rfl) (.inr hSS) (yl_move hF rfl rfl) ?_
        clear hF; intro a hF
        refine ha_s 31 hF rfl rfl rfl (wn_f hF rfl rfl rfl rfl) (.inr hSS) ?_
        clear hF; intro a hF
        refine ha_s 32 hF rfl rfl rfl (wn_f hF rfl rfl rfl rfl) (.inr hSS) ?_
        clear hF; intro a hF
        refine ha_s 33 hF rfl rfl rfl (wn_f hF rfl rfl rfl rfl) (.inr hSS) ?_
        clear hF; intro a hF
        refine ha_s 34 hF rfl rfl rfl (wn_u hF rfl rfl rfl rfl) (.inr hSS) ?_
        clear hF; intro a hF
        refine ha_s 35 hF rfl rfl rfl (wn_u hF rfl rfl rfl rfl) (.inr hSS) ?_
        clear hF; intro a hF
        refine ha_s 36 hF rfl rfl rfl (wn_u hF rfl rfl rfl rfl) (.inr hSS) ?_
        clear hF; intro a hF
        refine ha_s 37 hF rfl rfl rfl (wn_u hF rfl rfl rfl rfl) (.inr hSS) ?_
        clear hF; intro a hF
        refine ha_s 38 hF rfl rfl rfl (wn_u hF rfl rfl rfl rfl) (.inr hSS) ?_
        clear hF; intro a hF
        refine ha_s 39 hF rfl rfl rfl (wn_u hF rfl rfl rfl rfl) (.inr hSS) ?_
        clear hF; intro a hF
        refine ha_s 40 hF rfl rfl rfl (wn_u hF rfl rfl rfl rfl) (.inr hSS) ?_
        clear hF; intro a hF
        refine ha_s 41 hF rfl rfl rfl (wn_u hF rfl rfl rfl rfl) (.inr hSS) ?_
        clear hF; intro a hF
        refine ha_s 42 hF rfl rfl rfl (wn_u hF rfl rfl rfl rfl) (.inr hSS) ?_
        clear hF; intro a hF
        refine ha_s 43 hF rfl rfl rfl (wn_u hF rfl rfl rfl rfl) (.inr hSS) ?_
        clear hF; intro a hF
        refine ha_s 44 hF rfl rfl rfl (wn_u hF rfl rfl rfl rfl) (.inr hSS) ?_
        clear hF; intro a hF
        refine ha_s 45 hF rfl rfl rfl (wn_u hF rfl rfl rfl rfl) (.inr hSS) ?_
        clear hF; intro a hF
        refine ha_s 46 hF rfl rfl rfl (wn_f hF rfl rfl rfl rfl) (.inr hSS) ?_
        clear hF; intro a hF
        refine ha_y 47 hF rfl rfl rfl (wn_none rfl) (.inr hSS) (yl_pick (u := _) (v := undef) hF rfl rfl (fun _ => rfl) (fun h => by cases h)) ?_
        clear hF; intro a hF
        refine ha_done (by kernel_rfl) ?_ _
        refine then_n ?_
        refine c_cond_t hF rfl ?_
        refine c_seq ?_
        refine c_region ?_
        refine seq_yl hF (wn_none rfl) rfl rfl (yl_assign hF rfl rfl) ?_
        clear hF; intro a hF
        refine wpList_nil ?_
        refine then_n ?_
        refine wp_ret ?_
        refine then_r ?_
        refine inb_r ?_
        refine then_r ?_
        refine then_r ?_
        refine inb_r ?_
        refine then_r ?_
        refine ret_t hF rfl rfl ?_
        exact ⟨_, rfl, congrArg Value.bool (by first | exact dec_f (okA_no1 hx22 (by unfold fok; omega))), (hS.sub [] (by decide) (by first | rfl | simp) (by simp))⟩
      · first | (replace hc24 := of_decide_eq_false hc24) | (replace hc24 := of_decide_eq_true (bnot_f hc24)) | (subst hc24) | (replace hc24 := bnot_f hc24; subst hc24) | (replace hc24 := bnot_f hc24) | skip
        refine ha_y 7 hF rfl rfl rfl (wn_t hF rfl rfl rfl rfl) (.inr hSS) (yl_move hF rfl rfl) ?_
        clear hF; intro a hF
        refine ha_y 8 hF rfl rfl rfl (wn_t hF rfl rfl rfl rfl) (.inr hSS) (yl_move hF rfl rfl) ?_
        clear hF; intro a hF
        refine ha_y 9 hF rfl rfl rfl (wn_t hF rfl rfl rfl rfl) (.inr hSS) (yl_indexAddr hF rfl rfl rfl (fun _ => run_idx' sl26 sz44 (hS.rdRo 0 rfl) hlt_hx22)) ?_
        clear hF; intro a hF
        refine ha_y 10 hF rfl rfl rfl (wn_t hF rfl rfl rfl rfl) (.inr hSS) (yl_fieldAddr hF rfl rfl (fun w => run_fa0 fo44_0)) ?_
        clear hF; intro a hF
        refine ha_l 11 hF rfl rfl rfl (wn_t hF rfl rfl rfl rfl) hSS (yl_loadAt hF rfl rfl ag3 (fun _ h => rd_cell0 (enc := enc44) (Sat.rdRo h 0 rfl) enc44_len hx22 rfl rfl)) ?_
        clear hF; intro a hF
        refine ha_y 12 hF rfl rfl rfl (wn_t hF rfl rfl rfl rfl) (.inr hSS) (yl_bin hF rfl rfl rfl rfl (fun _ => run_geq)) ?_
        clear hF; intro a hF
        refine ha_y 13 hF rfl rfl rfl (wn_none rfl) (.inr hSS) (yl_pick (u := _) (v := undef) hF rfl rfl (fun h => by cases h) (fun _ => rfl)) ?_
        clear hF; intro a hF
        refine ha_y 14 hF rfl rfl rfl (wn_none rfl) (.inr hSS) (yl_move hF rfl rfl) ?_
        clear hF; intro a hF
        refine fr_split hF (fun hc25 hF => ?_) (fun hc25 hF => ?_)
        · first | (replace hc25 := of_decide_eq_true hc25) | (replace hc25 := of_decide_eq_false (bnot_t hc25)) | (subst hc25) | (replace hc25 := bnot_t hc25; subst hc25) | (replace hc25 := bnot_t hc25) | skip
          refine ha_s 15 hF rfl rfl rfl (wn_f hF rfl rfl rfl rfl) (.inr hSS) ?_
          clear hF; intro a hF
          refine ha_s 16 hF rfl rfl rfl (wn_f hF rfl rfl rfl rfl) (.inr hSS) ?_
          clear hF; intro a hF
          refine ha_s 17 hF rfl rfl rfl (wn_f hF rfl rfl rfl rfl) (.inr hSS) ?_
          clear hF; intro a hF
          refine ha_s 18 hF rfl rfl rfl (wn_f hF rfl rfl rfl rfl) (.inr hSS) ?_
          clear hF; intro a hF
          refine ha_s 19 hF rfl rfl rfl (wn_f hF rfl rfl rfl rfl) (.inr hSS) ?_
          clear hF; intro a hF
          refine ha_s 20 hF rfl rfl rfl (wn_f hF rfl rfl rfl rfl) (.inr hSS) ?_
          clear hF; intro a hF
          refine ha_y 21 hF rfl rfl rfl (wn_none rfl) (.inr hSS) (yl_pick (u := _) (v := undef) hF rfl rfl (fun _ => rfl) (fun h => by cases h)) ?_
          clear hF; intro a hF
          refine ha_y 22 hF rfl rfl rfl (wn_none rfl) (.inr hSS) (yl_move hF rfl rfl) ?_
          clear hF; intro a hF
          refine ha_s 23 hF rfl rfl rfl (wn_f hF rfl rfl rfl rfl) (.inr hSS) ?_
          clear hF; intro a hF
          refine ha_s 24 hF rfl rfl rfl (wn_f hF rfl rfl rfl rfl) (.inr hSS) ?_
          clear hF; intro a hF
          refine ha_s 25 hF rfl rfl rfl (wn_f hF rfl rfl rfl rfl) (.inr hSS) ?_
          clear hF; intro a hF
          refine ha_s 26 hF rfl rfl rfl (wn_f hF rfl rfl rfl rfl) (.inr hSS) ?_
          clear hF; intro a hF
          refine ha_s 27 hF rfl rfl rfl (wn_f hF rfl rfl rfl rfl) (.inr hSS) ?_
          clear hF; intro a hF
          refine ha_s 28 hF rfl rfl rfl (wn_f hF rfl rfl rfl rfl) (.inr hSS) ?_
          clear hF; intro a hF
          refine ha_y 29 hF rfl rfl rfl (wn_none rfl) (.inr hSS) (yl_pick (u := _) (v := undef) hF rfl rfl (fun _ => rfl) (fun h => by cases h)) ?_
          clear hF; intro a hF
          refine ha_y 30 hF rfl rfl rfl (wn_none rfl) (.inr hSS) (yl_move hF rfl rfl) ?_
          clear hF; intro a hF
          refine ha_s 31 hF rfl rfl rfl (wn_f hF rfl rfl rfl rfl) (.inr hSS) ?_
          clear hF; intro a hF
          refine ha_s 32 hF rfl rfl rfl (wn_f hF rfl rfl rfl rfl) (.inr hSS) ?_
          clear hF; intro a hF
          refine ha_s 33 hF rfl rfl rfl (wn_f hF rfl rfl rfl rfl) (.inr hSS) ?_
          clear hF; intro a hF
          refine ha_s 34 hF rfl rfl rfl (wn_u hF rfl rfl rfl rfl) (.inr hSS) ?_
          clear hF; intro a hF
          refine ha_s 35 hF rfl rfl rfl (wn_u hF rfl rfl rfl rfl) (.inr hSS) ?_
          clear hF; intro a hF
          refine ha_s 36 hF rfl rfl rfl (wn_u hF rfl rfl rfl rfl) (.inr hSS) ?_
          clear hF; intro a hF
          refine ha_s 37 hF rfl rfl rfl (wn_u hF rfl rfl rfl rfl) (.inr hSS) ?_
          clear hF; intro a hF
          refine ha_s 38 hF rfl rfl rfl (wn_u hF rfl rfl rfl rfl) (.inr hSS) ?_
          clear hF; intro a hF
          refine ha_s 39 hF rfl rfl rfl (wn_u hF rfl rfl rfl rfl) (.inr hSS) ?_
          clear hF; intro a hF
          refine ha_s 40 hF rfl rfl rfl (wn_u hF rfl rfl rfl rfl) (.inr hSS) ?_
          clear hF; intro a hF
          refine ha_s 41 hF rfl rfl rfl (wn_u hF rfl rfl rfl rfl) (.inr hSS) ?_
          clear hF; intro a hF
          refine ha_s 42 hF rfl rfl rfl (wn_u hF rfl rfl rfl rfl) (.inr hSS) ?_
          clear hF; intro a hF
          refine ha_s 43 hF rfl rfl rfl (wn_u hF rfl rfl rfl rfl) (.inr hSS) ?_
          clear hF; intro a hF
          refine ha_s 44 hF rfl rfl rfl (wn_u hF rfl rfl rfl rfl) (.inr hSS) ?_
          clear hF; intro a hF
          refine ha_s 45 hF rfl rfl rfl (wn_u hF rfl rfl rfl rfl) (.inr hSS) ?_
          clear hF; intro a hF
          refine ha_s 46 hF rfl rfl rfl (wn_f hF rfl rfl rfl rfl) (.inr hSS) ?_
          clear hF; intro a hF
          refine ha_y 47 hF rfl rfl rfl (wn_none rfl) (.inr hSS) (yl_pick (u := _) (v := undef) hF rfl rfl (fun _ => rfl) (fun h => by cases h)) ?_
          clear hF; intro a hF
          refine ha_done (by kernel_rfl) ?_ _
          refine then_n ?_
          refine c_cond_t hF rfl ?_
          refine c_seq ?_
          refine c_region ?_
          refine seq_yl hF (wn_none rfl) rfl rfl (yl_assign hF rfl rfl) ?_
          clear hF; intro a hF
          refine wpList_nil ?_
          refine then_n ?_
          refine wp_ret ?_
          refine then_r ?_
          refine inb_r ?_
          refine then_r ?_
          refine then_r ?_
          refine inb_r ?_
          refine then_r ?_
          refine ret_t hF rfl rfl ?_
          exact ⟨_, rfl, congrArg Value.bool (by first | exact dec_f (okA_no1 hx22 (by unfold fok; omega))), (hS.sub [] (by decide) (by first | rfl | simp) (by simp))⟩
        · first | (replace hc25 := of_decide_eq_false hc25) | (replace hc25 := of_decide_eq_true (bnot_f hc25)) | (subst hc25) | (replace hc25 := bnot_f hc25; subst hc25) | (replace hc25 := bnot_f hc25) | skip
          refine ha_y 15 hF rfl rfl rfl (wn_t hF rfl rfl rfl rfl) (.inr hSS) (yl_move hF rfl rfl) ?_
          clear hF; intro a hF
          refine ha_y 16 hF rfl rfl rfl (wn_t hF rfl rfl rfl rfl) (.inr hSS) (yl_move hF rfl rfl) ?_
          clear hF; intro a hF
          refine ha_y 17 hF rfl rfl rfl (wn_t hF rfl rfl rfl rfl) (.inr hSS) (yl_indexAddr hF rfl rfl rfl (fun _ => run_idx' sl26 sz44 (hS.rdRo 0 rfl) hlt_hx22)) ?_
          clear hF; intro a hF
          refine ha_y 18 hF rfl rfl rfl (wn_t hF rfl rfl rfl rfl) (.inr hSS) (yl_fieldAddr hF rfl rfl (fun w => run_fa fo44_1)) ?_
          clear hF; intro a hF
          refine ha_l 19 hF rfl rfl rfl (wn_t hF rfl rfl rfl rfl) hSS (yl_loadAt hF rfl rfl ag3 (fun _ h => rd_cell (j := 1) (enc := enc44) (Sat.rdRo h 0 rfl) enc44_len hx22 rfl rfl)) ?_
          clear hF; intro a hF
          refine ha_y 20 hF rfl rfl rfl (wn_t hF rfl rfl rfl rfl) (.inr hSS) (yl_bin hF rfl rfl rfl rfl (fun _ => run_lss)) ?_
          clear hF; intro a hF
          refine ha_y 21 hF rfl rfl rfl (wn_none rfl) (.inr hSS) (yl_pick (u := _) (v := undef) hF rfl rfl (fun h => by cases h) (fun _ => rfl)) ?_
          clear hF; intro a hF
          refine ha_y 22 hF rfl rfl rfl (wn_none rfl) (.inr hSS) (yl_move hF rfl rfl) ?_
          clear hF; intro a hF
          refine fr_split hF (fun hc26 hF => ?_) (fun hc26 hF => ?_)
          · first | (replace hc26 := of_decide_eq_true hc26) | (replace hc26 := of_decide_eq_false (bnot_t hc26)) | (subst hc26) | (replace hc26 := bnot_t hc26; subst hc26) | (replace hc26 := bnot_t hc26) | skip
            refine ha_s 23 hF rfl rfl rfl (wn_f hF rfl rfl rfl rfl) (.inr hSS) ?_
            clear hF; intro a hF
            refine ha_s 24 hF rfl rfl rfl (wn_f hF rfl rfl rfl rfl) (.inr hSS) ?_
            clear hF; intro a hF
            refine ha_s 25 hF rfl rfl rfl (wn_f hF rfl rfl rfl rfl) (.inr hSS) ?_
            clear hF; intro a hF
            refine ha_s 26 hF rfl rfl rfl (wn_f hF rfl rfl rfl rfl) (.inr hSS) ?_
            clear hF; intro a hF
            refine ha_s 27 hF rfl rfl rfl (wn_f hF rfl rfl rfl rfl) (.inr hSS) ?_
            clear hF; intro a hF
            refine ha_s 28 hF rfl rfl rfl (wn_f hF rfl rfl rfl rfl) (.inr hSS) ?_
            clear hF; intro a hF
            refine ha_y 29 hF rfl rfl rfl (wn_none rfl) (.inr hSS) (yl_pick (u := _) (v := undef) hF rfl rfl (fun _ => rfl) (fun h => by cases h)) ?_
            clear hF; intro a hF
            refine ha_y 30 hF rfl rfl rfl (wn_none rfl) (.inr hSS) (yl_move hF rfl rfl) ?_
            clear hF; intro a hF
            refine ha_s 31 hF rfl rfl rfl (wn_f hF rfl rfl rfl rfl) (.inr hSS) ?_
            clear hF; intro a hF
            refine ha_s 32 hF rfl rfl rfl (wn_f hF rfl rfl rfl rfl) (.inr hSS) ?_
            clear hF; intro a hF
            refine ha_s 33 hF rfl rfl rfl (wn_f hF rfl rfl rfl rfl) (.inr hSS) ?_
            clear hF; intro a hF
            refine ha_s 34 hF rfl rfl rfl (wn_u hF rfl rfl rfl rfl) (.inr hSS) ?_
            clear hF; intro a hF
            refine ha_s 35 hF rfl rfl rfl (wn_u hF rfl rfl rfl rfl) (.inr hSS) ?_
            clear hF; intro a hF
            refine ha_s 36 hF rfl rfl rfl (wn_u hF rfl rfl rfl rfl) (.inr hSS) ?_
            clear hF; intro a hF
            refine ha_s 37 hF rfl rfl rfl (wn_u hF rfl rfl rfl rfl) (.inr hSS) ?_
            clear hF; intro a hF
            refine ha_s 38 hF rfl rfl rfl (wn_u hF rfl rfl rfl rfl) (.inr hSS) ?_
            clear hF; intro a hF
            refine ha_s 39 hF rfl rfl rfl (wn_u hF rfl rfl rfl rfl) (.inr hSS) ?_
            clear hF; intro a hF
            refine ha_s 40 hF rfl rfl rfl (wn_u hF rfl rfl rfl rfl) (.inr hSS) ?_
            clear hF; intro a hF
            refine ha_s 41 hF rfl rfl rfl (wn_u hF rfl rfl rfl rfl) (.inr hSS) ?_
            clear hF; intro a hF
            refine ha_s 42 hF rfl rfl rfl (wn_u hF rfl rfl rfl rfl) (.inr hSS) ?_
            clear hF; intro a hF
            refine ha_s 43 hF rfl rfl rfl (wn_u hF rfl rfl rfl rfl) (.inr hSS) ?_
            clear hF; intro a hF
            refine ha_s 44 hF rfl rfl rfl (wn_u hF rfl rfl rfl rfl) (.inr hSS) ?_
            clear hF; intro a hF
            refine ha_s 45 hF rfl rfl rfl (wn_u hF rfl rfl rfl rfl) (.inr hSS) ?_
            clear hF; intro a hF
            refine ha_s 46 hF rfl rfl rfl (wn_f hF rfl rfl rfl rfl) (.inr hSS) ?_
            clear hF; intro a hF
            refine ha_y 47 hF rfl rfl rfl (wn_none rfl) (.inr hSS) (yl_pick (u := _) (v := undef) hF rfl rfl (fun _ => rfl) (fun h => by cases h)) ?_
            clear hF; intro a hF
            refine ha_done (by kernel_rfl) ?_ _
            refine then_n ?_
            refine c_cond_t hF rfl ?_
            refine c_seq ?_
            refine c_region ?_
            refine seq_yl hF (wn_none rfl) rfl rfl (yl_assign hF rfl rfl) ?_
            clear hF; intro a hF
            refine wpList_nil ?_
            refine then_n ?_
            refine wp_ret ?_
            refine then_r ?_
            refine inb_r ?_
            refine then_r ?_
            refine then_r ?_
            refine inb_r ?_
            refine then_r ?_
            refine ret_t hF rfl rfl ?_
            exact ⟨_, rfl, congrArg Value.bool (by first | exact dec_f (okA_no1 hx22 (by unfold fok; omega))), (hS.sub [] (by decide) (by first | rfl | simp) (by simp))⟩
          · first | (replace hc26 := of_decide_eq_false hc26) | (replace hc26 := of_decide_eq_true (bnot_f hc26)) | (subst hc26) | (replace hc26 := bnot_f hc26; subst hc26) | (replace hc26 := bnot_f hc26) | skip
            refine ha_y 23 hF rfl rfl rfl (wn_t hF rfl rfl rfl rfl) (.inr hSS) (yl_move hF rfl rfl) ?_
            clear hF; intro a hF
            refine ha_y 24 hF rfl rfl rfl (wn_t hF rfl rfl rfl rfl) (.inr hSS) (yl_move hF rfl rfl) ?_
            clear hF; intro a hF
            refine ha_y 25 hF rfl rfl rfl (wn_t hF rfl rfl rfl rfl) (.inr hSS) (yl_indexAddr hF rfl rfl rfl (fun _ => run_idx' sl26 sz44 (hS.rdRo 0 rfl) hlt_hx22)) ?_
            clear hF; intro a hF
            refine ha_y 26 hF rfl rfl rfl (wn_t hF rfl rfl rfl rfl) (.inr hSS) (yl_fieldAddr hF rfl rfl (fun w => run_fa fo44_1)) ?_
            clear hF; intro a hF
            refine ha_l 27 hF rfl rfl rfl (wn_t hF rfl rfl rfl rfl) hSS (yl_loadAt hF rfl rfl ag3 (fun _ h => rd_cell (j := 1) (enc := enc44) (Sat.rdRo h 0 rfl) enc44_len hx22 rfl rfl)) ?_
            clear hF; intro a hF
            refine ha_y 28 hF rfl rfl rfl (wn_t hF rfl rfl rfl rfl) (.inr hSS) (yl_bin hF rfl rfl rfl rfl (fun _ => run_gtr)) ?_
            clear hF; intro a hF
            refine ha_y 29 hF rfl rfl rfl (wn_none rfl) (.inr hSS) (yl_pick (u := _) (v := undef) hF rfl rfl (fun h => by cases h) (fun _ => rfl)) ?_
            clear hF; intro a hF
            refine ha_y 30 hF rfl rfl rfl (wn_none rfl) (.inr hSS) (yl_move hF rfl rfl) ?_
            clear hF; intro a hF
            refine fr_split hF (fun hc27 hF => ?_) (fun hc27 hF => ?_)
            · first | (replace hc27 := of_decide_eq_true hc27) | (replace hc27 := of_decide_eq_false (bnot_t hc27)) | (subst hc27) | (replace hc27 := bnot_t hc27; subst hc27) | (replace hc27 := bnot_t hc27) | skip
              refine ha_s 31 hF rfl rfl rfl (wn_f hF rfl rfl rfl rfl) (.inr hSS) ?_
              clear hF; intro a hF
              refine ha_s 32 hF rfl rfl rfl (wn_f hF rfl rfl rfl rfl) (.inr hSS) ?_
              clear hF; intro a hF
              refine ha_s 33 hF rfl rfl rfl (wn_f hF rfl rfl rfl rfl) (.inr hSS) ?_
              clear hF; intro a hF
              refine ha_s 34 hF rfl rfl rfl (wn_u hF rfl rfl rfl rfl) (.inr hSS) ?_
              clear hF; intro a hF
              refine ha_s 35 hF rfl rfl rfl (wn_u hF rfl rfl rfl rfl) (.inr hSS) ?_
              clear hF; intro a hF
              refine ha_s 36 hF rfl rfl rfl (wn_u hF rfl rfl rfl rfl) (.inr hSS) ?_
              clear hF; intro a hF
              refine ha_s 37 hF rfl rfl rfl (wn_u hF rfl rfl rfl rfl) (.inr hSS) ?_
              clear hF; intro a hF
              refine ha_s 38 hF rfl rfl rfl (wn_u hF rfl rfl rfl rfl) (.inr hSS) ?_
              clear hF; intro a hF
              refine ha_s 39 hF rfl rfl rfl (wn_u hF rfl rfl rfl rfl) (.inr hSS) ?_
              clear hF; intro a hF
              refine ha_s 40 hF rfl rfl rfl (wn_u hF rfl rfl rfl rfl) (.inr hSS) ?_
              clear hF; intro a hF
              refine ha_s 41 hF rfl rfl rfl (wn_u hF rfl rfl rfl rfl) (.inr hSS) ?_
              clear hF; intro a hF
              refine ha_s 42 hF rfl rfl rfl (wn_u hF rfl rfl rfl rfl) (.inr hSS) ?_
              clear hF; intro a hF
              refine ha_s 43 hF rfl rfl rfl (wn_u hF rfl rfl rfl rfl) (.inr hSS) ?_
              clear hF; intro a hF
              refine ha_s 44 hF rfl rfl rfl (wn_u hF rfl rfl rfl rfl) (.inr hSS) ?_
              clear hF; intro a hF
              refine ha_s 45 hF rfl rfl rfl (wn_u hF rfl rfl rfl rfl) (.inr hSS) ?_
              clear hF; intro a hF
              refine ha_s 46 hF rfl rfl rfl (wn_f hF rfl rfl rfl rfl) (.inr hSS) ?_
              clear hF; intro a hF
              refine ha_y 47 hF rfl rfl rfl (wn_none rfl) (.inr hSS) (yl_pick (u := _) (v := undef) hF rfl rfl (fun _ => rfl) (fun h => by cases h)) ?_
              clear hF; intro a hF
              refine ha_done (by kernel_rfl) ?_ _
              refine then_n ?_
              refine c_cond_t hF rfl ?_
              refine c_seq ?_
              refine c_region ?_
              refine seq_yl hF (wn_none rfl) rfl rfl (yl_assign hF rfl rfl) ?_
              clear hF; intro a hF
              refine wpList_nil ?_
              refine then_n ?_
              refine wp_ret ?_
              refine then_r ?_
              refine inb_r ?_
              refine then_r ?_
              refine then_r ?_
              refine inb_r ?_
              refine then_r ?_
              refine ret_t hF rfl rfl ?_
              exact ⟨_, rfl, congrArg Value.bool (by first | exact dec_f (okA_no1 hx22 (by unfold fok; omega))), (hS.sub [] (by decide) (by first | rfl | simp) (by simp))⟩
            · first | (replace hc27 := of_decide_eq_false hc27) | (replace hc27 := of_decide_eq_true (bnot_f hc27)) | (subst hc27) | (replace hc27 := bnot_f hc27; subst hc27) | (replace hc27 := bnot_f hc27) | skip
              refine ha_y 31 hF rfl rfl rfl (wn_t hF rfl rfl rfl rfl) (.inr hSS) (yl_move hF rfl rfl) ?_
              clear hF; intro a hF
              refine ha_y 32 hF rfl rfl rfl (wn_t hF rfl rfl rfl rfl) (.inr hSS) (yl_bin hF rfl rfl rfl rfl (fun _ => run_gtr)) ?_
              clear hF; intro a hF
              refine ha_y 33 hF rfl rfl rfl (wn_t hF rfl rfl rfl rfl) (.inr hSS) (yl_move hF rfl rfl) ?_
              clear hF; intro a hF
              refine fr_split hF (fun hc28 hF => ?_) (fun hc28 hF => ?_)
              · first | (replace hc28 := of_decide_eq_true hc28) | (replace hc28 := of_decide_eq_false (bnot_t hc28)) | (subst hc28) | (replace hc28 := bnot_t hc28; subst hc28) | (replace hc28 := bnot_t hc28) | skip
                refine ha_y 34 hF rfl rfl rfl (wn_t hF rfl rfl rfl rfl) (.inr hSS) (yl_move hF rfl rfl) ?_
                clear hF; intro a hF
                refine ha_y 35 hF rfl rfl rfl (wn_t hF rfl rfl rfl rfl) (.inr hSS) (yl_move hF rfl rfl) ?_
                clear hF; intro a hF
                refine ha_y 36 hF rfl rfl rfl (wn_t hF rfl rfl rfl rfl) (.inr hSS) (yl_indexAddr hF rfl rfl rfl (fun _ => run_idx' sl26 sz44 (hS.rdRo 0 rfl) hlt_hx22)) ?_
                clear hF; intro a hF
                refine ha_y 37 hF rfl rfl rfl (wn_t hF rfl rfl rfl rfl) (.inr hSS) (yl_fieldAddr hF rfl rfl (fun w => run_fa fo44_1)) ?_
                clear hF; intro a hF
                refine ha_y 39 hF rfl rfl rfl (wn_t hF rfl rfl rfl rfl) (.inr hSS) (yl_move hF rfl rfl) ?_
                clear hF; intro a hF
                refine ha_y 40 hF rfl rfl rfl (wn_t hF rfl rfl rfl rfl) (.inr hSS) (yl_move hF rfl rfl) ?_
                clear hF; intro a hF
                refine ha_y 41 hF rfl rfl rfl (wn_t hF rfl rfl rfl rfl) (.inr hSS) (yl_bin hF rfl rfl rfl rfl (fun _ => run_dec (c := 1) (by omega) (by omega))) ?_
                clear hF; intro a hF
                have hlt_hx29 : (i - 1) < (L).length := by first | omega | (simp; done) | (simp; omega)
                obtain ⟨x29, hx29⟩ := get_some hlt_hx29
                refine ha_y 42 hF rfl rfl rfl (wn_t hF rfl rfl rfl rfl) (.inr hSS) (yl_indexAddr hF rfl rfl rfl (fun _ => run_idx' sl26 sz44 (hS.rdRo 0 rfl) hlt_hx29)) ?_
                clear hF; intro a hF
                refine ha_y 43 hF rfl rfl rfl (wn_t hF rfl rfl rfl rfl) (.inr hSS) (yl_fieldAddr hF rfl rfl (fun w => run_fa fo44_1)) ?_
                clear hF; intro a hF
                refine ha_l 38 hF rfl rfl rfl (wn_t hF rfl rfl rfl rfl) hSS (yl_loadAt hF rfl rfl ag3 (fun _ h => rd_cell (j := 1) (enc := enc44) (Sat.rdRo h 0 rfl) enc44_len hx22 rfl rfl)) ?_
                clear hF; intro a hF
                refine ha_l 44 hF rfl rfl rfl (wn_t hF rfl rfl rfl rfl) hSS (yl_loadAt hF rfl rfl ag3 (fun _ h => rd_cell (j := 1) (enc := enc44) (Sat.rdRo h 0 rfl) enc44_len hx29 rfl rfl)) ?_
                clear hF; intro a hF
                refine ha_y 45 hF rfl rfl rfl (wn_t hF rfl rfl rfl rfl) (.inr hSS) (yl_bin hF rfl rfl rfl rfl (fun _ => run_lss)) ?_
                clear hF; intro a hF
                refine ha_y 46 hF rfl rfl rfl (wn_t hF rfl rfl rfl rfl) (.inr hSS) (yl_pick (u := _) (v := undef) hF rfl rfl (fun _ => rfl) (fun h => by cases h)) ?_
                clear hF; intro a hF
                refine ha_y 47 hF rfl rfl rfl (wn_none rfl) (.inr hSS) (yl_pick (u := _) (v := undef) hF rfl rfl (fun h => by cases h) (fun _ => rfl)) ?_
                clear hF; intro a hF
                refine ha_done (by kernel_rfl) ?_ _
                refine then_n ?_
                refine c_cond hF rfl (fun hc30 => ?_) (fun hc30 => ?_)
                · first | (replace hc30 := of_decide_eq_true hc30) | (replace hc30 := of_decide_eq_false (bnot_t hc30)) | (subst hc30) | (replace hc30 := bnot_t hc30; subst hc30) | (replace hc30 := bnot_t hc30) | skip
                  refine c_seq ?_
                  refine c_region ?_
                  refine seq_yl hF (wn_none rfl) rfl rfl (yl_assign hF rfl rfl) ?_
                  clear hF; intro a hF
                  refine wpList_nil ?_
                  refine then_n ?_
                  refine wp_ret ?_
                  refine then_r ?_
                  refine inb_r ?_
                  refine then_r ?_
                  refine then_r ?_
                  refine inb_r ?_
                  refine then_r ?_
                  refine ret_t hF rfl rfl ?_
                  exact ⟨_, rfl, congrArg Value.bool (by first | exact dec_f (okA_no1 hx22 (by unfold fok; omega)) | exact dec_f (okA_no2 hx22 (tk_mem2 hx29 (by omega)) (.inl (by omega))) | exact dec_f (okA_no2 hx22 (tk_mem2 hx29 (by omega)) (.inr (by omega)))), (hS.sub [] (by decide) (by first | rfl | simp) (by simp))⟩
                · first | (replace hc30 := of_decide_eq_false hc30) | (replace hc30 := of_decide_eq_true (bnot_f hc30)) | (subst hc30) | (replace hc30 := bnot_f hc30; subst hc30) | (replace hc30 := bnot_f hc30) | skip
                  refine wp_skip ?_
                  refine then_n ?_
                  refine c_seq ?_
                  refine c_region ?_
                  refine seq_yl hF (wn_none rfl) rfl rfl (yl_assign hF rfl rfl) ?_
                  clear hF; intro a hF
                  refine wpList_nil ?_
                  refine then_n ?_
                  refine wp_block ?_
                  have hle : ∀ y ∈ L.take i, y.f1 ≤ x22.f1 := by first | exact le_zero (by omega) | exact le_prev hok (by omega) hx29 (by omega)
                  refine c_loop (fun m a w => ∃ (k : Nat), m = i - k ∧ (k ≤ i ∧ ∀ y ∈ L.take k, ∀ x9, L[i]? = some x9 → y.f0 ≠ x9.f0) ∧ Fr 75 a [(0, .slice (some ad23) (L).length cv), (3, .int .i64 ((i : Nat) : Int)), (4, .int .i64 ((k : Nat) : Int))] ∧ Sat w0 w (.ro 2 (.slice (some ad23) (L).length cv) (L).length (cells enc44 (L)) :: [])) (i - 0) ?_ ?_
                  · exact ⟨0, rfl, ⟨Nat.zero_le _, by simp⟩, hF.to [0, 3, 4] rfl, (hS.sub [0] (by decide) (by first | rfl | simp) (by simp))⟩
                  · clear hF hS; try clear hSS
                    clear a w; rintro m a w ⟨k, rfl, hinv, hF, hS⟩
                    obtain ⟨hki, hin⟩ := hinv
                    refine c_seq ?_
                    refine c_seq ?_
                    refine c_region ?_
                    refine seq_yl hF (wn_none rfl) rfl rfl (yl_move hF rfl rfl) ?_
                    clear hF; intro a hF
                    refine seq_yl hF (wn_none rfl) rfl rfl (yl_move hF rfl rfl) ?_
                    clear hF; intro a hF
                    refine seq_yl hF (wn_none rfl) rfl rfl (yl_bin hF rfl rfl rfl rfl (fun _ => run_lss)) ?_
                    clear hF; intro a hF
                    refine wpList_nil ?_
                    refine then_n ?_
                    refine c_cond hF rfl (fun hc31 => ?_) (fun hc31 => ?_)
                    · first | (replace hc31 := of_decide_eq_true hc31) | (replace hc31 := of_decide_eq_false (bnot_t hc31)) | (subst hc31) | (replace hc31 := bnot_t hc31; subst hc31) | (replace hc31 := bnot_t hc31) | skip
                      refine wp_skip ?_
                      refine then_n ?_
                      refine c_seq ?_
                      refine wp_block ?_
                      refine c_seq ?_
                      refine ha_startS hS [0] 11 (by kernel_rfl) ?_; clear hS; intro w hS
                      have hSS := hS.sub [0] (by decide) rfl (by simp)
                      refine ha_y 0 hF rfl rfl rfl (wn_none rfl) (.inr hSS) (yl_move hF rfl rfl) ?_
                      clear hF; intro a hF
                      refine ha_y 1 hF rfl rfl rfl (wn_none rfl) (.inr hSS) (yl_move hF rfl rfl) ?_
                      clear hF; intro a hF
                      have hlt_hx32 : k < (L).length := by first | omega | (simp; done) | (simp; omega)
                      obtain ⟨x32, hx32⟩ := get_some hlt_hx32
                      refine ha_y 2 hF rfl rfl rfl (wn_none rfl) (.inr hSS) (yl_indexAddr hF rfl rfl rfl (fun _ => run_idx' sl26 sz44 (hS.rdRo 0 rfl) hlt_hx32)) ?_
                      clear hF; intro a hF
                      refine ha_y 3 hF rfl rfl rfl (wn_none rfl) (.inr hSS) (yl_fieldAddr hF rfl rfl (fun w => run_fa0 fo44_0)) ?_
                      clear hF; intro a hF
                      refine ha_y 5 hF rfl rfl rfl (wn_none rfl) (.inr hSS) (yl_move hF rfl rfl) ?_
                      clear hF; intro a hF
                      refine ha_y 6 hF rfl rfl rfl (wn_none rfl) (.inr hSS) (yl_move hF rfl rfl) ?_
                      clear hF; intro a hF
                      have hlt_hx33 : i < (L).length := by first | omega | (simp; done) | (simp; omega)
                      obtain ⟨x33, hx33⟩ := get_some hlt_hx33
                      refine ha_y 7 hF rfl rfl rfl (wn_none rfl) (.inr hSS) (yl_indexAddr hF rfl rfl rfl (fun _ => run_idx' sl26 sz44 (hS.rdRo 0 rfl) hlt_hx33)) ?_
                      clear hF; intro a hF
                      refine ha_y 8 hF rfl rfl rfl (wn_none rfl) (.inr hSS) (yl_fieldAddr hF rfl rfl (fun w => run_fa0 fo44_0)) ?_
                      clear hF; intro a hF
                      refine ha_l 4 hF rfl rfl rfl (wn_none rfl) hSS (yl_loadAt hF rfl rfl ag3 (fun _ h => rd_cell0 (enc := enc44) (Sat.rdRo h 0 rfl) enc44_len hx32 rfl rfl)) ?_
                      clear hF; intro a hF
                      refine ha_l 9 hF rfl rfl rfl (wn_none rfl) hSS (yl_loadAt hF rfl rfl ag3 (fun _ h => rd_cell0 (enc := enc44) (Sat.rdRo h 0 rfl) enc44_len hx33 rfl rfl)) ?_
                      clear hF; intro a hF
                      refine ha_y 10 hF rfl rfl rfl (wn_none rfl) (.inr hSS) (yl_bin hF rfl rfl rfl rfl (fun _ => run_eql)) ?_
                      clear hF; intro a hF
                      refine ha_done (by kernel_rfl) ?_ _
                      refine then_n ?_
                      refine c_cond hF rfl (fun hc34 => ?_) (fun hc34 => ?_)
                      · first | (replace hc34 := of_decide_eq_true hc34) | (replace hc34 := of_decide_eq_false (bnot_t hc34)) | (subst hc34) | (replace hc34 := bnot_t hc34; subst hc34) | (replace hc34 := bnot_t hc34) | skip
                        refine c_seq ?_
                        refine c_region ?_
                        refine seq_yl hF (wn_none rfl) rfl rfl (yl_assign hF rfl rfl) ?_
                        clear hF; intro a hF
                        refine wpList_nil ?_
                        refine then_n ?_
                        refine wp_ret ?_
                        refine inb_r ?_
                        refine then_r ?_
                        refine then_r ?_
                        refine inb_r ?_
                        refine inb_r ?_
                        refine then_r ?_
                        refine then_r ?_
                        refine inb_r ?_
                        refine then_r ?_
                        refine ret_t hF rfl rfl ?_
                        exact ⟨_, rfl, congrArg Value.bool (by first | exact dec_f (okA_no1 hx33 (by unfold fok; omega)) | exact dec_f (okA_no2 hx33 (tk_mem2 hx32 (by omega)) (.inl (by omega))) | exact dec_f (okA_no2 hx33 (tk_mem2 hx32 (by omega)) (.inr (by omega)))), (hS.sub [] (by decide) (by first | rfl | simp) (by simp))⟩
                      · first | (replace hc34 := of_decide_eq_false hc34) | (replace hc34 := of_decide_eq_true (bnot_f hc34)) | (subst hc34) | (replace hc34 := bnot_f hc34; subst hc34) | (replace hc34 := bnot_f hc34) | skip
                        refine wp_skip ?_
                        refine inb_n ?_
                        refine then_n ?_
                        refine c_region ?_
                        refine seq_yl hF (wn_none rfl) rfl rfl (yl_move hF rfl rfl) ?_
                        clear hF; intro a hF
                        refine seq_yl hF (wn_none rfl) rfl rfl (yl_bin hF rfl rfl rfl rfl (fun _ => run_inc (by omega))) ?_
                        clear hF; intro a hF
                        refine seq_yl hF (wn_none rfl) rfl rfl (yl_assign hF rfl rfl) ?_
                        clear hF; intro a hF
                        refine wpList_nil ?_
                        refine then_n ?_
                        exact ⟨_, (by omega), k + 1, rfl, ⟨by omega, tk_all hx32 hin (fun x9 hx9 => by rw [hx33] at hx9; cases hx9; omega)⟩, hF.to [0, 3, 4] rfl, (hS.sub [0] (by decide) (by first | rfl | simp) (by simp))⟩
                    · first | (replace hc31 := of_decide_eq_false hc31) | (replace hc31 := of_decide_eq_true (bnot_f hc31)) | (subst hc31) | (replace hc31 := bnot_f hc31; subst hc31) | (replace hc31 := bnot_f hc31) | skip
                      refine wp_exit ?_
                      refine then_x ?_
                      refine then_x ?_
                      refine inb_x ?_
                      refine inb_n ?_
                      refine then_n ?_
                      refine c_region ?_
                      refine seq_yl hF (wn_none rfl) rfl rfl (yl_move hF rfl rfl) ?_
                      clear hF; intro a hF
                      refine seq_yl hF (wn_none rfl) rfl rfl (yl_bin hF rfl rfl rfl rfl (fun _ => run_inc (by omega))) ?_
                      clear hF; intro a hF
                      refine seq_yl hF (wn_none rfl) rfl rfl (yl_assign hF rfl rfl) ?_
                      clear hF; intro a hF
                      refine wpList_nil ?_
                      refine then_n ?_
                      exact ⟨_, (by omega), i + 1, rfl, ⟨by omega, okA_step hx22 hok (by unfold fok; omega) (fun y hy => ⟨hle y hy, hin y (by rwa [show k = i by omega]) _ hx22⟩)⟩, hF.to [0, 3] rfl, (hS.sub [0] (by decide) (by first | rfl | simp) (by simp))⟩
              · first | (replace hc28 := of_decide_eq_false hc28) | (replace hc28 := of_decide_eq_true (bnot_f hc28)) | (subst hc28) | (replace hc28 := bnot_f hc28; subst hc28) | (replace hc28 := bnot_f hc28) | skip
                refine ha_s 34 hF rfl rfl rfl (wn_f hF rfl rfl rfl rfl) (.inr hSS) ?_
                clear hF; intro a hF
                refine ha_s 35 hF rfl rfl rfl (wn_f hF rfl rfl rfl rfl) (.inr hSS) ?_
                clear hF; intro a hF
                refine ha_s 36 hF rfl rfl rfl (wn_f hF rfl rfl rfl rfl) (.inr hSS) ?_
                clear hF; intro a hF
                refine ha_s 37 hF rfl rfl rfl (wn_f hF rfl rfl rfl rfl) (.inr hSS) ?_
                clear hF; intro a hF
                refine ha_s 38 hF rfl rfl rfl (wn_f hF rfl rfl rfl rfl) (.inr hSS) ?_
                clear hF; intro a hF
                refine ha_s 39 hF rfl rfl rfl (wn_f hF rfl rfl rfl rfl) (.inr hSS) ?_
                clear hF; intro a hF
                refine ha_s 40 hF rfl rfl rfl (wn_f hF rfl rfl rfl rfl) (.inr hSS) ?_
                clear hF; intro a hF
                refine ha_s 41 hF rfl rfl rfl (wn_f hF rfl rfl rfl rfl) (.inr hSS) ?_
                clear hF; intro a hF
                refine ha_s 42 hF rfl rfl rfl (wn_f hF rfl rfl rfl rfl) (.inr hSS) ?_
                clear hF; intro a hF
                refine ha_s 43 hF rfl rfl rfl (wn_f hF rfl rfl rfl rfl) (.inr hSS) ?_
                clear hF; intro a hF
                refine ha_s 44 hF rfl rfl rfl (wn_f hF rfl rfl rfl rfl) (.inr hSS) ?_
                clear hF; intro a hF
                refine ha_s 45 hF rfl rfl rfl (wn_f hF rfl rfl rfl rfl) (.inr hSS) ?_
                clear hF; intro a hF
                refine ha_y 46 hF rfl rfl rfl (wn_t hF rfl rfl rfl rfl) (.inr hSS) (yl_pick (u := _) (v := undef) hF rfl rfl (fun h => by cases h) (fun _ => rfl)) ?_
                clear hF; intro a hF
                refine ha_y 47 hF rfl rfl rfl (wn_none rfl) (.inr hSS) (yl_pick (u := _) (v := undef) hF rfl rfl (fun h => by cases h) (fun _ => rfl)) ?_
                clear hF; intro a hF
                refine ha_done (by kernel_rfl) ?_ _
                refine then_n ?_
                refine c_cond_f hF rfl ?_
                refine wp_skip ?_
                refine then_n ?_
                refine c_seq ?_
                refine c_region ?_
                refine seq_yl hF (wn_none rfl) rfl rfl (yl_assign hF rfl rfl) ?_
                clear hF; intro a hF
                refine wpList_nil ?_
                refine then_n ?_
                refine wp_block ?_
                have hle : ∀ y ∈ L.take i, y.f1 ≤ x22.f1 := by first | exact le_zero (by omega)
                refine c_loop (fun m a w => ∃ (k : Nat), m = i - k ∧ (k ≤ i ∧ ∀ y ∈ L.take k, ∀ x9, L[i]? = some x9 → y.f0 ≠ x9.f0) ∧ Fr 75 a [(0, .slice (some ad23) (L).length cv), (3, .int .i64 ((i : Nat) : Int)), (4, .int .i64 ((k : Nat) : Int))] ∧ Sat w0 w (.ro 2 (.slice (some ad23) (L).length cv) (L).length (cells enc44 (L)) :: [])) (i - 0) ?_ ?_
                · exact ⟨0, rfl, ⟨Nat.zero_le _, by simp⟩, hF.to [0, 3, 4] rfl, (hS.sub [0] (by decide) (by first | rfl | simp) (by simp))⟩
                · clear hF hS; try clear hSS
                  clear a w; rintro m a w ⟨k, rfl, hinv, hF, hS⟩
                  obtain ⟨hki, hin⟩ := hinv
                  refine c_seq ?_
                  refine c_seq ?_
                  refine c_region ?_
                  refine seq_yl hF (wn_none rfl) rfl rfl (yl_move hF rfl rfl) ?_
                  clear hF; intro a hF
                  refine seq_yl hF (wn_none rfl) rfl rfl (yl_move hF rfl rfl) ?_
                  clear hF; intro a hF
                  refine seq_yl hF (wn_none rfl) rfl rfl (yl_bin hF rfl rfl rfl rfl (fun _ => run_lss)) ?_
                  clear hF; intro a hF
                  refine wpList_nil ?_
                  refine then_n ?_
                  refine c_cond hF rfl (fun hc35 => ?_) (fun hc35 => ?_)
                  · first | (replace hc35 := of_decide_eq_true hc35) | (replace hc35 := of_decide_eq_false (bnot_t hc35)) | (subst hc35) | (replace hc35 := bnot_t hc35; subst hc35) | (replace hc35 := bnot_t hc35) | skip
                    refine wp_skip ?_
                    refine then_n ?_
                    refine c_seq ?_
                    refine wp_block ?_
                    refine c_seq ?_
                    refine ha_startS hS [0] 11 (by kernel_rfl) ?_; clear hS; intro w hS
                    have hSS := hS.sub [0] (by decide) rfl (by simp)
                    refine ha_y 0 hF rfl rfl rfl (wn_none rfl) (.inr hSS) (yl_move hF rfl rfl) ?_
                    clear hF; intro a hF
                    refine ha_y 1 hF rfl rfl rfl (wn_none rfl) (.inr hSS) (yl_move hF rfl rfl) ?_
                    clear hF; intro a hF
                    have hlt_hx36 : k < (L).length := by first | omega | (simp; done) | (simp; omega)
                    obtain ⟨x36, hx36⟩ := get_some hlt_hx36
                    refine ha_y 2 hF rfl rfl rfl (wn_none rfl) (.inr hSS) (yl_indexAddr hF rfl rfl rfl (fun _ => run_idx' sl26 sz44 (hS.rdRo 0 rfl) hlt_hx36)) ?_
                    clear hF; intro a hF
                    refine ha_y 3 hF rfl rfl rfl (wn_none rfl) (.inr hSS) (yl_fieldAddr hF rfl rfl (fun w => run_fa0 fo44_0)) ?_
                    clear hF; intro a hF
                    refine ha_y 5 hF rfl rfl rfl (wn_none rfl) (.inr hSS) (yl_move hF rfl rfl) ?_
                    clear hF; intro a hF
                    refine ha_y 6 hF rfl rfl rfl (wn_none rfl) (.inr hSS) (yl_move hF rfl rfl) ?_
                    clear hF; intro a hF
                    have hlt_hx37 : i < (L).length := by first | omega | (simp; done) | (simp; omega)
                    obtain ⟨x37, hx37⟩ := get_some hlt_hx37
                    refine ha_y 7 hF rfl rfl rfl (wn_none rfl) (.inr hSS) (yl_indexAddr hF rfl rfl rfl (fun _ => run_idx' sl26 sz44 (hS.rdRo 0 rfl) hlt_hx37)) ?_
                    clear hF; intro a hF
                    refine ha_y 8 hF rfl rfl rfl (wn_none rfl) (.inr hSS) (yl_fieldAddr hF rfl rfl (fun w => run_fa0 fo44_0)) ?_
                    clear hF; intro a hF
                    refine ha_l 4 hF rfl rfl rfl (wn_none rfl) hSS (yl_loadAt hF rfl rfl ag3 (fun _ h => rd_cell0 (enc := enc44) (Sat.rdRo h 0 rfl) enc44_len hx36 rfl rfl)) ?_
                    clear hF; intro a hF
                    refine ha_l 9 hF rfl rfl rfl (wn_none rfl) hSS (yl_loadAt hF rfl rfl ag3 (fun _ h => rd_cell0 (enc := enc44) (Sat.rdRo h 0 rfl) enc44_len hx37 rfl rfl)) ?_
                    clear hF; intro a hF
                    refine ha_y 10 hF rfl rfl rfl (wn_none rfl) (.inr hSS) (yl_bin hF rfl rfl rfl rfl (fun _ => run_eql)) ?_
                    clear hF; intro a hF
                    refine ha_done (by kernel_rfl) ?_ _
                    refine then_n ?_
                    refine c_cond hF rfl (fun hc38 => ?_) (fun hc38 => ?_)
                    · first | (replace hc38 := of_decide_eq_true hc38) | (replace hc38 := of_decide_eq_false (bnot_t hc38)) | (subst hc38) | (replace hc38 := bnot_t hc38; subst hc38) | (replace hc38 := bnot_t hc38) | skip
                      refine c_seq ?_
                      refine c_region ?_
                      refine seq_yl hF (wn_none rfl) rfl rfl (yl_assign hF rfl rfl) ?_
                      clear hF; intro a hF
                      refine wpList_nil ?_
                      refine then_n ?_
                      refine wp_ret ?_
                      refine inb_r ?_
                      refine then_r ?_
                      refine then_r ?_
                      refine inb_r ?_
                      refine inb_r ?_
                      refine then_r ?_
                      refine then_r ?_
                      refine inb_r ?_
                      refine then_r ?_
                      refine ret_t hF rfl rfl ?_
                      exact ⟨_, rfl, congrArg Value.bool (by first | exact dec_f (okA_no1 hx37 (by unfold fok; omega)) | exact dec_f (okA_no2 hx37 (tk_mem2 hx36 (by omega)) (.inl (by omega))) | exact dec_f (okA_no2 hx37 (tk_mem2 hx36 (by omega)) (.inr (by omega)))), (hS.sub [] (by decide) (by first | rfl | simp) (by simp))⟩
                    · first | (replace hc38 := of_decide_eq_false hc38) | (replace hc38 := of_decide_eq_true (bnot_f hc38)) | (subst hc38) | (replace hc38 := bnot_f hc38; subst hc38) | (replace hc38 := bnot_f hc38) | skip
                      refine wp_skip ?_
                      refine inb_n ?_
                      refine then_n ?_
                      refine c_region ?_
                      refine seq_yl hF (wn_none rfl) rfl rfl (yl_move hF rfl rfl) ?_
                      clear hF; intro a hF
                      refine seq_yl hF (wn_none rfl) rfl rfl (yl_bin hF rfl rfl rfl rfl (fun _ => run_inc (by omega))) ?_
                      clear hF; intro a hF
                      refine seq_yl hF (wn_none rfl) rfl rfl (yl_assign hF rfl rfl) ?_
                      clear hF; intro a hF
                      refine wpList_nil ?_
                      refine then_n ?_
                      exact ⟨_, (by omega), k + 1, rfl, ⟨by omega, tk_all hx36 hin (fun x9 hx9 => by rw [hx37] at hx9; cases hx9; omega)⟩, hF.to [0, 3, 4] rfl, (hS.sub [0] (by decide) (by first | rfl | simp) (by simp))⟩
                  · first | (replace hc35 := of_decide_eq_false hc35) | (replace hc35 := of_decide_eq_true (bnot_f hc35)) | (subst hc35) | (replace hc35 := bnot_f hc35; subst hc35) | (replace hc35 := bnot_f hc35) | skip
                    refine wp_exit ?_
                    refine then_x ?_
                    refine then_x ?_
                    refine inb_x ?_
                    refine inb_n ?_
                    refine then_n ?_
                    refine c_region ?_
                    refine seq_yl hF (wn_none rfl) rfl rfl (yl_move hF rfl rfl) ?_
                    clear hF; intro a hF
                    refine seq_yl hF (wn_none rfl) rfl rfl (yl_bin hF rfl rfl rfl rfl (fun _ => run_inc (by omega))) ?_
                    clear hF; intro a hF
                    refine seq_yl hF (wn_none rfl) rfl rfl (yl_assign hF rfl rfl) ?_
                    clear hF; intro a hF
                    refine wpList_nil ?_
                    refine then_n ?_
                    exact ⟨_, (by omega), i + 1, rfl, ⟨by omega, okA_step hx22 hok (by unfold fok; omega) (fun y hy => ⟨hle y hy, hin y (by rwa [show k = i by omega]) _ hx22⟩)⟩, hF.to [0, 3] rfl, (hS.sub [0] (by decide) (by first | rfl | simp) (by simp))⟩
    · first | (replace hc21 := of_decide_eq_false hc21) | (replace hc21 := of_decide_eq_true (bnot_f hc21)) | (subst hc21) | (replace hc21 := bnot_f hc21; subst hc21) | (replace hc21 := bnot_f hc21) | skip
      refine wp_exit ?_
      refine then_x ?_
      refine then_x ?_
      refine inb_x ?_
      refine then_n ?_
      refine c_seq ?_
      refine c_region ?_
      refine seq_yl hF (wn_none rfl) rfl rfl (yl_assign hF rfl rfl) ?_
      clear hF; intro a hF
      refine wpList_nil ?_
      refine then_n ?_
      refine wp_ret ?_
      refine ret_t hF rfl rfl ?_
      exact ⟨_, rfl, congrArg Value.bool (dec_t (okA_all hok (by omega))), (hS.sub [] (by decide) (by first | rfl | simp) (by simp))⟩

end Go.Proofs.Ytffaminjbcfojaa

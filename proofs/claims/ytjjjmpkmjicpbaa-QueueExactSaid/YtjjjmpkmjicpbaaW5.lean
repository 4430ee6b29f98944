/- walks, printed by wip/gen -/
import Derived.Test.YtjjjmpkmjicpbaaW3
import Derived.Test.YtjjjmpkmjicpbaaP2
namespace Go.Proofs.Ytjjjmpkmjicpbaa
open Go.RowKit
set_option linter.unusedVariables false
set_option linter.unusedSimpArgs false

theorem done_any (qd qh qf : Int) (qL : List E39) (now : Int) (v : Value) (w0 : World) (hv : Rd w0 12 v (qL).length (cells enc39 (qL))) (hL : qL.length ≤ 1000000) :
    Fn Try.prog 16 #[.agg #[.int .i64 qd, .int .i64 qh, .int .i64 qf, v], .int .i64 now] w0 (fun v w' => ∃ v1 v2, v = .tuple #[.agg #[.int .i64 qd, .int .i64 qh, .int .i64 qf, v1], v2] ∧ Sat w0 w' [.row 39 12 v1 (restF qL now).length (cells enc39 (restF qL now)), .row 39 12 v2 (doneF qL now).length (cells enc39 (doneF qL now))]) := by
  obtain ⟨Av, cv, rfl⟩ := Rd.form hv
  refine c_enter (N := 39) (l := [_, _]) Try.func16 rfl rfl (fun a w hF hS => ?_)
  replace hS := hS.addRo hv
  refine c_seq ?_
  refine c_region ?_
  refine seq_wp (wn_none rfl) (wp_box (cs := #[_, _, _, _]) hF hS rfl rfl rfl rfl rfl ?_)
  clear hF hS; intro a w g136 hF hS
  refine seq_wp (wn_none rfl) (wp_alloc (cs := #[_, _, _, _]) hF hS rfl rfl rfl zr25 rfl ?_)
  clear hF hS; intro a w g137 hF hS
  refine seq_yl hF (wn_none rfl) rfl rfl (yl_assign hF rfl rfl) ?_
  clear hF; intro a hF
  refine wpList_nil ?_
  refine then_n ?_
  refine c_seq ?_
  refine c_region ?_
  refine seq_yl hF (wn_none rfl) rfl rfl (yl_assign hF rfl rfl) ?_
  clear hF; intro a hF
  refine seq_yl hF (wn_none rfl) rfl rfl (yl_assign hF rfl rfl) ?_
  clear hF; intro a hF
  refine wpList_nil ?_
  refine then_n ?_
  refine c_seq ?_
  refine c_seq ?_
  refine c_region ?_
  refine seq_yl hF (wn_none rfl) rfl rfl (yl_fieldAddr hF rfl rfl (fun w => by kernel_rfl : ∀ w, (Instr.fieldAt 25 (.pointer (some ⟨g136, 0, none⟩)) 3).run Try.prog w = .ok (.pointer (some ⟨g136, 3, none⟩)) w)) ?_
  clear hF; intro a hF
  refine seq_yl hF (wn_none rfl) rfl rfl (yl_load (fun _ h => h ▸ hS) hF rfl rfl 1 rfl ag23 rfl) ?_
  clear hF; intro a hF
  refine seq_yl hF (wn_none rfl) rfl rfl (yl_len hF rfl rfl (fun _ => run_lenRd sl23 (hS.rdRo 2 rfl))) ?_
  clear hF; intro a hF
  refine seq_yl hF (wn_none rfl) rfl rfl (yl_move hF rfl rfl) ?_
  clear hF; intro a hF
  refine wpList_nil ?_
  refine then_n ?_
  refine wp_block ?_
  replace hS := hS.addNil 39 12
  replace hS := hS.addNil 39 12
  refine c_loop (fun m a w => ∃ (k : Nat) (LR LD : List E39) (AvR : Option Addr) (cvR : Nat) (AvD : Option Addr) (cvD : Nat), m = qL.length - k ∧ (k ≤ qL.length ∧ LR = restF (qL.take k) now ∧ LD = doneF (qL.take k) now ∧ LR.length ≤ k ∧ LD.length ≤ k) ∧ Fr 39 a [(1, .int .i64 (now)), (2, .pointer (some ⟨g136, 0, none⟩)), (4, .pointer (some ⟨g137, 0, none⟩)), (6, .slice AvR (LR).length cvR), (7, .slice AvD (LD).length cvD), (11, .slice Av (qL).length cv), (12, .int .i64 (((qL).length : Nat) : Int)), (13, .int .i64 ((k : Nat) : Int))] ∧ Sat w0 w (.box g136 25 #[.int .i64 (qd), .int .i64 (qh), .int .i64 (qf), .slice Av (qL).length cv] :: .box g137 25 #[.int .i64 (0 : Int), .int .i64 (0 : Int), .int .i64 (0 : Int), .slice none 0 0] :: .ro 12 (.slice Av (qL).length cv) (qL).length (cells enc39 (qL)) :: .row 39 12 (.slice AvR (LR).length cvR) (LR).length (cells enc39 (LR)) :: .row 39 12 (.slice AvD (LD).length cvD) (LD).length (cells enc39 (LD)) :: [])) (qL.length - 0) ?_ ?_
  · exact ⟨0, [], [], none, 0, none, 0, rfl, ⟨Nat.zero_le _, rfl, rfl, by simp, by simp⟩, hF.to [1, 2, 4, 6, 7, 11, 12, 13] rfl, (hS.sub [3, 2, 4, 1, 0] (by decide) (by first | rfl | simp) (by simp))⟩
  · clear hF hS; try clear hSS
    clear a w; rintro m a w ⟨k, LR, LD, AvR, cvR, AvD, cvD, rfl, hinv, hF, hS⟩
    obtain ⟨hk, hR, hD, hlR, hlD⟩ := hinv
    refine c_seq ?_
    refine c_region ?_
    refine seq_yl hF (wn_none rfl) rfl rfl (yl_bin hF rfl rfl rfl rfl (fun _ => run_lss)) ?_
    clear hF; intro a hF
    refine wpList_nil ?_
    refine then_n ?_
    refine c_seq ?_
    refine c_cond hF rfl (fun hc138 => ?_) (fun hc138 => ?_)
    · first | (replace hc138 := of_decide_eq_true hc138) | (replace hc138 := of_decide_eq_false (bnot_t hc138)) | (subst hc138) | (replace hc138 := bnot_t hc138; subst hc138) | (replace hc138 := bnot_t hc138) | skip
      refine wp_skip ?_
      refine then_n ?_
      refine c_seq ?_
      refine wp_block ?_
      refine c_seq ?_
      refine c_region ?_
      have hlt_hx139 : k < (qL).length := by first | omega | (simp; done) | (simp; omega)
      obtain ⟨ad140, rfl⟩ := rd_some (hS.rdRo 2 rfl) hlt_hx139
      obtain ⟨x139, hx139⟩ := get_some hlt_hx139
      refine seq_yl hF (wn_none rfl) rfl rfl (yl_indexAddr hF rfl rfl rfl (fun _ => run_idx' sl23 sz39 (hS.rdRo 2 rfl) hlt_hx139)) ?_
      clear hF; intro a hF
      refine seq_yl hF (wn_none rfl) rfl rfl (yl_loadEl (rs := [.int .i64 (x139.f0), .int .i64 (x139.f1), .int .i64 (x139.f2), .int .i64 (x139.f3), .string x139.f4, .bool x139.f5, .int .i64 (x139.f6), .int .i64 (x139.f7), .int .i64 (x139.f8), .int .i64 (x139.f9), .bool x139.f10, .int .i64 (x139.f11)]) hF rfl rfl ag39 sz39 rfl (fun _ h => rd_cells (enc := enc39) (by subst h; exact hS.rdRo 2 rfl) enc39_len hx139)) ?_
      clear hF; intro a hF
      refine seq_wp (wn_none rfl) (wp_alloc (cs := #[_, _, _, _, _, _, _, _, _, _, _, _]) hF hS rfl rfl rfl zr39 rfl ?_)
      clear hF hS; intro a w g141 hF hS
      refine seq_wp (wn_none rfl) (wp_store (cs' := #[_, _, _, _, _, _, _, _, _, _, _, _]) hF hS rfl rfl rfl rfl 0 rfl sz39 (by simp [Value.cells, Value.oneCell']) (by simp [Value.cells]) rfl ?_)
      clear hF hS; intro a w hF hS
      refine wpList_nil ?_
      refine then_n ?_
      refine c_seq ?_
      refine c_region ?_
      refine seq_yl hF (wn_none rfl) rfl rfl (yl_fieldAddr hF rfl rfl (fun w => by kernel_rfl : ∀ w, (Instr.fieldAt 39 (.pointer (some ⟨g141, 0, none⟩)) 7).run Try.prog w = .ok (.pointer (some ⟨g141, 7, none⟩)) w)) ?_
      clear hF; intro a hF
      refine seq_yl hF (wn_none rfl) rfl rfl (yl_load (fun _ h => h ▸ hS) hF rfl rfl 0 rfl ag3 rfl) ?_
      clear hF; intro a hF
      refine seq_yl hF (wn_none rfl) rfl rfl (yl_bin hF rfl rfl rfl rfl (fun _ => run_geq)) ?_
      clear hF; intro a hF
      refine seq_yl hF (wn_none rfl) rfl rfl (yl_move hF rfl rfl) ?_
      clear hF; intro a hF
      refine fr_split hF (fun hc142 hF => ?_) (fun hc142 hF => ?_)
      · first | (replace hc142 := of_decide_eq_true hc142) | (replace hc142 := of_decide_eq_false (bnot_t hc142)) | (subst hc142) | (replace hc142 := bnot_t hc142; subst hc142) | (replace hc142 := bnot_t hc142) | skip
        refine seq_yl hF (wn_t hF rfl rfl rfl rfl) rfl rfl (yl_fieldAddr hF rfl rfl (fun w => by kernel_rfl : ∀ w, (Instr.fieldAt 39 (.pointer (some ⟨g141, 0, none⟩)) 7).run Try.prog w = .ok (.pointer (some ⟨g141, 7, none⟩)) w)) ?_
        clear hF; intro a hF
        refine seq_yl hF (wn_t hF rfl rfl rfl rfl) rfl rfl (yl_load (fun _ h => h ▸ hS) hF rfl rfl 0 rfl ag3 rfl) ?_
        clear hF; intro a hF
        refine seq_yl hF (wn_t hF rfl rfl rfl rfl) rfl rfl (yl_move hF rfl rfl) ?_
        clear hF; intro a hF
        refine seq_yl hF (wn_t hF rfl rfl rfl rfl) rfl rfl (yl_bin hF rfl rfl rfl rfl (fun _ => run_leq)) ?_
        clear hF; intro a hF
        refine seq_yl hF (wn_none rfl) rfl rfl (yl_pick (u := _) (v := undef) hF rfl rfl (fun _ => rfl) (fun h => by cases h)) ?_
        clear hF; intro a hF
        refine wpList_nil ?_
        refine then_n ?_
        refine c_cond hF rfl (fun hc143 => ?_) (fun hc143 => ?_)
        · first | (replace hc143 := of_decide_eq_true hc143) | (replace hc143 := of_decide_eq_false (bnot_t hc143)) | (subst hc143) | (replace hc143 := bnot_t hc143; subst hc143) | (replace hc143 := bnot_t hc143) | skip
          refine c_region ?_
          refine seq_yl hF (wn_none rfl) rfl rfl (yl_move hF rfl rfl) ?_
          clear hF; intro a hF
          refine seq_yl hF (wn_none rfl) rfl rfl (yl_loadK (rs := [_, _, _, _, _, _, _, _, _, _, _, _]) (fun _ h => h ▸ hS) hF rfl rfl 0 rfl ag39 sz39 rfl rfl) ?_
          clear hF; intro a hF
          refine seq_wp (wn_none rfl) (wp_bslice (parts := [(0, .tmp 27)]) (vs := [(0, _)]) (enc := enc39) (e := 39) (size := 12) (cs := #[.int .i64 (x139.f0), .int .i64 (x139.f1), .int .i64 (x139.f2), .int .i64 (x139.f3), .string x139.f4, .bool x139.f5, .int .i64 (x139.f6), .int .i64 (x139.f7), .int .i64 (x139.f8), .int .i64 (x139.f9), .bool x139.f10, .int .i64 (x139.f11)]) hF hS rfl rfl rfl rfl ([(E39.mk (x139.f0) (x139.f1) (x139.f2) (x139.f3) x139.f4 x139.f5 (x139.f6) (x139.f7) (x139.f8) (x139.f9) x139.f10 (x139.f11))] : List E39) (fun w => by kernel_rfl) rfl rfl rfl (by decide) ?_)
          clear hF hS; intro a w v144 hF hS
          obtain ⟨Av144, cv144, rfl⟩ := hS.form 0 rfl
          refine seq_wp (wn_none rfl) (wp_app (enc := enc39) hF hS rfl rfl rfl rfl rfl 6 rfl sl23 inf39 rfl (by decide) (hS.rdRow 0 rfl) enc39_one (by decide) (by first | omega | (simp only [List.length_append, List.length_cons, List.length_nil]; omega) | (simp; omega)) ?_)
          clear hF hS; intro a w v145 hF hS
          obtain ⟨Av145, cv145, rfl⟩ := hS.form 6 rfl
          refine seq_yl hF (wn_none rfl) rfl rfl (yl_assign hF rfl rfl) ?_
          clear hF; intro a hF
          refine wpList_nil ?_
          refine inb_n ?_
          refine then_n ?_
          refine c_region ?_
          refine seq_yl hF (wn_none rfl) rfl rfl (yl_bin hF rfl rfl rfl rfl (fun _ => run_inc (by omega))) ?_
          clear hF; intro a hF
          refine seq_yl hF (wn_none rfl) rfl rfl (yl_move hF rfl rfl) ?_
          clear hF; intro a hF
          refine wpList_nil ?_
          refine then_n ?_
          exact ⟨_, (by omega), k + 1, _, _, AvR, cvR, Av145, cv145, rfl, ⟨by omega, by first | exact (by rw [hR]; exact (due_no hx139 (by omega)).2.symm) | exact (by rw [hR]; exact (due_yes hx139 (by omega)).2.symm), by first | exact (by rw [hD]; exact (due_no hx139 (by omega)).1.symm) | exact (by rw [hD]; exact (due_yes hx139 (by omega)).1.symm), by simp at *; omega, by simp at *; omega⟩, hF.to [1, 2, 4, 6, 7, 11, 12, 13] rfl, (hS.sub [2, 3, 4, 5, 6] (by decide) (by first | rfl | simp) (by simp))⟩
        · first | (replace hc143 := of_decide_eq_false hc143) | (replace hc143 := of_decide_eq_true (bnot_f hc143)) | (subst hc143) | (replace hc143 := bnot_f hc143; subst hc143) | (replace hc143 := bnot_f hc143) | skip
          refine c_region ?_
          refine seq_yl hF (wn_none rfl) rfl rfl (yl_move hF rfl rfl) ?_
          clear hF; intro a hF
          refine seq_yl hF (wn_none rfl) rfl rfl (yl_loadK (rs := [_, _, _, _, _, _, _, _, _, _, _, _]) (fun _ h => h ▸ hS) hF rfl rfl 0 rfl ag39 sz39 rfl rfl) ?_
          clear hF; intro a hF
          refine seq_wp (wn_none rfl) (wp_bslice (parts := [(0, .tmp 31)]) (vs := [(0, _)]) (enc := enc39) (e := 39) (size := 12) (cs := #[.int .i64 (x139.f0), .int .i64 (x139.f1), .int .i64 (x139.f2), .int .i64 (x139.f3), .string x139.f4, .bool x139.f5, .int .i64 (x139.f6), .int .i64 (x139.f7), .int .i64 (x139.f8), .int .i64 (x139.f9), .bool x139.f10, .int .i64 (x139.f11)]) hF hS rfl rfl rfl rfl ([(E39.mk (x139.f0) (x139.f1) (x139.f2) (x139.f3) x139.f4 x139.f5 (x139.f6) (x139.f7) (x139.f8) (x139.f9) x139.f10 (x139.f11))] : List E39) (fun w => by kernel_rfl) rfl rfl rfl (by decide) ?_)
          clear hF hS; intro a w v146 hF hS
          obtain ⟨Av146, cv146, rfl⟩ := hS.form 0 rfl
          refine seq_wp (wn_none rfl) (wp_app (enc := enc39) hF hS rfl rfl rfl rfl rfl 5 rfl sl23 inf39 rfl (by decide) (hS.rdRow 0 rfl) enc39_one (by decide) (by first | omega | (simp only [List.length_append, List.length_cons, List.length_nil]; omega) | (simp; omega)) ?_)
          clear hF hS; intro a w v147 hF hS
          obtain ⟨Av147, cv147, rfl⟩ := hS.form 5 rfl
          refine seq_yl hF (wn_none rfl) rfl rfl (yl_assign hF rfl rfl) ?_
          clear hF; intro a hF
          refine wpList_nil ?_
          refine inb_n ?_
          refine then_n ?_
          refine c_region ?_
          refine seq_yl hF (wn_none rfl) rfl rfl (yl_bin hF rfl rfl rfl rfl (fun _ => run_inc (by omega))) ?_
          clear hF; intro a hF
          refine seq_yl hF (wn_none rfl) rfl rfl (yl_move hF rfl rfl) ?_
          clear hF; intro a hF
          refine wpList_nil ?_
          refine then_n ?_
          exact ⟨_, (by omega), k + 1, _, _, Av147, cv147, AvD, cvD, rfl, ⟨by omega, by first | exact (by rw [hR]; exact (due_no hx139 (by omega)).2.symm) | exact (by rw [hR]; exact (due_yes hx139 (by omega)).2.symm), by first | exact (by rw [hD]; exact (due_no hx139 (by omega)).1.symm) | exact (by rw [hD]; exact (due_yes hx139 (by omega)).1.symm), by simp at *; omega, by simp at *; omega⟩, hF.to [1, 2, 4, 6, 7, 11, 12, 13] rfl, (hS.sub [2, 3, 4, 5, 6] (by decide) (by first | rfl | simp) (by simp))⟩
      · first | (replace hc142 := of_decide_eq_false hc142) | (replace hc142 := of_decide_eq_true (bnot_f hc142)) | (subst hc142) | (replace hc142 := bnot_f hc142; subst hc142) | (replace hc142 := bnot_f hc142) | skip
        refine seq_skip hF (wn_f hF rfl rfl rfl rfl) rfl rfl ?_
        clear hF; intro a hF
        refine seq_skip hF (wn_f hF rfl rfl rfl rfl) rfl rfl ?_
        clear hF; intro a hF
        refine seq_skip hF (wn_f hF rfl rfl rfl rfl) rfl rfl ?_
        clear hF; intro a hF
        refine seq_skip hF (wn_f hF rfl rfl rfl rfl) rfl rfl ?_
        clear hF; intro a hF
        refine seq_yl hF (wn_none rfl) rfl rfl (yl_pick (u := _) (v := undef) hF rfl rfl (fun h => by cases h) (fun _ => rfl)) ?_
        clear hF; intro a hF
        refine wpList_nil ?_
        refine then_n ?_
        refine c_cond_f hF rfl ?_
        refine c_region ?_
        refine seq_yl hF (wn_none rfl) rfl rfl (yl_move hF rfl rfl) ?_
        clear hF; intro a hF
        refine seq_yl hF (wn_none rfl) rfl rfl (yl_loadK (rs := [_, _, _, _, _, _, _, _, _, _, _, _]) (fun _ h => h ▸ hS) hF rfl rfl 0 rfl ag39 sz39 rfl rfl) ?_
        clear hF; intro a hF
        refine seq_wp (wn_none rfl) (wp_bslice (parts := [(0, .tmp 31)]) (vs := [(0, _)]) (enc := enc39) (e := 39) (size := 12) (cs := #[.int .i64 (x139.f0), .int .i64 (x139.f1), .int .i64 (x139.f2), .int .i64 (x139.f3), .string x139.f4, .bool x139.f5, .int .i64 (x139.f6), .int .i64 (x139.f7), .int .i64 (x139.f8), .int .i64 (x139.f9), .bool x139.f10, .int .i64 (x139.f11)]) hF hS rfl rfl rfl rfl ([(E39.mk (x139.f0) (x139.f1) (x139.f2) (x139.f3) x139.f4 x139.f5 (x139.f6) (x139.f7) (x139.f8) (x139.f9) x139.f10 (x139.f11))] : List E39) (fun w => by kernel_rfl) rfl rfl rfl (by decide) ?_)
        clear hF hS; intro a w v148 hF hS
        obtain ⟨Av148, cv148, rfl⟩ := hS.form 0 rfl
        refine seq_wp (wn_none rfl) (wp_app (enc := enc39) hF hS rfl rfl rfl rfl rfl 5 rfl sl23 inf39 rfl (by decide) (hS.rdRow 0 rfl) enc39_one (by decide) (by first | omega | (simp only [List.length_append, List.length_cons, List.length_nil]; omega) | (simp; omega)) ?_)
        clear hF hS; intro a w v149 hF hS
        obtain ⟨Av149, cv149, rfl⟩ := hS.form 5 rfl
        refine seq_yl hF (wn_none rfl) rfl rfl (yl_assign hF rfl rfl) ?_
        clear hF; intro a hF
        refine wpList_nil ?_
        refine inb_n ?_
        refine then_n ?_
        refine c_region ?_
        refine seq_yl hF (wn_none rfl) rfl rfl (yl_bin hF rfl rfl rfl rfl (fun _ => run_inc (by omega))) ?_
        clear hF; intro a hF
        refine seq_yl hF (wn_none rfl) rfl rfl (yl_move hF rfl rfl) ?_
        clear hF; intro a hF
        refine wpList_nil ?_
        refine then_n ?_
        exact ⟨_, (by omega), k + 1, _, _, Av149, cv149, AvD, cvD, rfl, ⟨by omega, by first | exact (by rw [hR]; exact (due_no hx139 (by omega)).2.symm) | exact (by rw [hR]; exact (due_yes hx139 (by omega)).2.symm), by first | exact (by rw [hD]; exact (due_no hx139 (by omega)).1.symm) | exact (by rw [hD]; exact (due_yes hx139 (by omega)).1.symm), by simp at *; omega, by simp at *; omega⟩, hF.to [1, 2, 4, 6, 7, 11, 12, 13] rfl, (hS.sub [2, 3, 4, 5, 6] (by decide) (by first | rfl | simp) (by simp))⟩
    · first | (replace hc138 := of_decide_eq_false hc138) | (replace hc138 := of_decide_eq_true (bnot_f hc138)) | (subst hc138) | (replace hc138 := bnot_f hc138; subst hc138) | (replace hc138 := bnot_f hc138) | skip
      refine wp_exit ?_
      refine then_x ?_
      refine then_x ?_
      refine inb_x ?_
      refine then_n ?_
      refine c_seq ?_
      refine c_region ?_
      refine seq_yl hF (wn_none rfl) rfl rfl (yl_move hF rfl rfl) ?_
      clear hF; intro a hF
      refine seq_yl hF (wn_none rfl) rfl rfl (yl_fieldAddr hF rfl rfl (fun w => by kernel_rfl : ∀ w, (Instr.fieldAt 25 (.pointer (some ⟨g136, 0, none⟩)) 3).run Try.prog w = .ok (.pointer (some ⟨g136, 3, none⟩)) w)) ?_
      clear hF; intro a hF
      refine seq_wp (wn_none rfl) (wp_store (cs' := #[_, _, _, _]) hF hS rfl rfl rfl rfl 0 rfl sz23 (by simp [Value.cells, Value.oneCell']) (by simp [Value.cells]) rfl ?_)
      clear hF hS; intro a w hF hS
      refine wpList_nil ?_
      refine then_n ?_
      refine c_seq ?_
      refine c_region ?_
      refine seq_yl hF (wn_none rfl) rfl rfl (yl_loadK (rs := [_, _, _, _]) (fun _ h => h ▸ hS) hF rfl rfl 0 rfl ag25 sz25 rfl rfl) ?_
      clear hF; intro a hF
      refine seq_yl hF (wn_none rfl) rfl rfl (yl_move hF rfl rfl) ?_
      clear hF; intro a hF
      refine seq_wp (wn_none rfl) (wp_store (cs' := #[_, _, _, _]) hF hS rfl rfl rfl rfl 1 rfl sz25 (by simp [Value.cells, Value.oneCell']) (by simp [Value.cells]) rfl ?_)
      clear hF hS; intro a w hF hS
      refine seq_yl hF (wn_none rfl) rfl rfl (yl_assign hF rfl rfl) ?_
      clear hF; intro a hF
      refine wpList_nil ?_
      refine then_n ?_
      refine wp_ret ?_
      refine ret_ct hF rfl (resC hS rfl 1 rfl ag25 sz25) rfl ?_
      rw [List.take_of_length_le (by omega)] at hR hD
      subst hR hD
      exact ⟨_, rfl, _, _, rfl, (hS.sub [3, 4] (by decide) (by first | rfl | simp) (by simp))⟩

theorem done2_any (qd qh qf : Int) (qL : List E39) (now : Int) (v : Value) (w0 : World) (hv : Rd w0 12 v (qL).length (cells enc39 (qL))) (hL : qL.length ≤ 1000000) :
    Fn Try.prog 23 #[.agg #[.int .i64 qd, .int .i64 qh, .int .i64 qf, v], .int .i64 now] w0 (fun v w' => ∃ v1 v2, v = .tuple #[.agg #[.int .i64 qd, .int .i64 qh, .int .i64 qf, v1], v2] ∧ Sat w0 w' [.row 39 12 v1 (restF qL now).length (cells enc39 (restF qL now)), .row 39 12 v2 (doneF qL now).length (cells enc39 (doneF qL now))]) := by
  obtain ⟨Av, cv, rfl⟩ := Rd.form hv
  refine c_enter (N := 43) (l := [_, _]) Try.func23 rfl rfl (fun a w hF hS => ?_)
  replace hS := hS.addRo hv
  refine c_seq ?_
  refine c_region ?_
  refine seq_wp (wn_none rfl) (wp_box (cs := #[_, _, _, _]) hF hS rfl rfl rfl rfl rfl ?_)
  clear hF hS; intro a w g150 hF hS
  refine seq_wp (wn_none rfl) (wp_alloc (cs := #[_, _, _, _]) hF hS rfl rfl rfl zr25 rfl ?_)
  clear hF hS; intro a w g151 hF hS
  refine seq_yl hF (wn_none rfl) rfl rfl (yl_assign hF rfl rfl) ?_
  clear hF; intro a hF
  refine wpList_nil ?_
  refine then_n ?_
  refine c_seq ?_
  refine c_region ?_
  refine seq_yl hF (wn_none rfl) rfl rfl (yl_assign hF rfl rfl) ?_
  clear hF; intro a hF
  refine seq_yl hF (wn_none rfl) rfl rfl (yl_assign hF rfl rfl) ?_
  clear hF; intro a hF
  refine wpList_nil ?_
  refine then_n ?_
  refine c_seq ?_
  refine c_seq ?_
  refine c_region ?_
  refine seq_yl hF (wn_none rfl) rfl rfl (yl_assign hF rfl rfl) ?_
  clear hF; intro a hF
  refine wpList_nil ?_
  refine then_n ?_
  refine wp_block ?_
  replace hS := hS.addNil 39 12
  replace hS := hS.addNil 39 12
  refine c_loop (fun m a w => ∃ (k : Nat) (LR LD : List E39) (AvR : Option Addr) (cvR : Nat) (AvD : Option Addr) (cvD : Nat), m = qL.length - k ∧ (k ≤ qL.length ∧ LR = restF (qL.take k) now ∧ LD = doneF (qL.take k) now ∧ LR.length ≤ k ∧ LD.length ≤ k) ∧ Fr 43 a [(1, .int .i64 (now)), (2, .pointer (some ⟨g150, 0, none⟩)), (4, .pointer (some ⟨g151, 0, none⟩)), (6, .slice AvR (LR).length cvR), (7, .slice AvD (LD).length cvD), (8, .int .i64 ((k : Nat) : Int))] ∧ Sat w0 w (.box g150 25 #[.int .i64 (qd), .int .i64 (qh), .int .i64 (qf), .slice Av (qL).length cv] :: .box g151 25 #[.int .i64 (0 : Int), .int .i64 (0 : Int), .int .i64 (0 : Int), .slice none 0 0] :: .ro 12 (.slice Av (qL).length cv) (qL).length (cells enc39 (qL)) :: .row 39 12 (.slice AvR (LR).length cvR) (LR).length (cells enc39 (LR)) :: .row 39 12 (.slice AvD (LD).length cvD) (LD).length (cells enc39 (LD)) :: [])) (qL.length - 0) ?_ ?_
  · exact ⟨0, [], [], none, 0, none, 0, rfl, ⟨Nat.zero_le _, rfl, rfl, by simp, by simp⟩, hF.to [1, 2, 4, 6, 7, 8] rfl, (hS.sub [3, 2, 4, 1, 0] (by decide) (by first | rfl | simp) (by simp))⟩
  · clear hF hS; try clear hSS
    clear a w; rintro m a w ⟨k, LR, LD, AvR, cvR, AvD, cvD, rfl, hinv, hF, hS⟩
    obtain ⟨hk, hR, hD, hlR, hlD⟩ := hinv
    refine c_seq ?_
    refine c_seq ?_
    refine c_region ?_
    refine seq_yl hF (wn_none rfl) rfl rfl (yl_move hF rfl rfl) ?_
    clear hF; intro a hF
    refine seq_yl hF (wn_none rfl) rfl rfl (yl_fieldAddr hF rfl rfl (fun w => by kernel_rfl : ∀ w, (Instr.fieldAt 25 (.pointer (some ⟨g150, 0, none⟩)) 3).run Try.prog w = .ok (.pointer (some ⟨g150, 3, none⟩)) w)) ?_
    clear hF; intro a hF
    refine seq_yl hF (wn_none rfl) rfl rfl (yl_load (fun _ h => h ▸ hS) hF rfl rfl 0 rfl ag23 rfl) ?_
    clear hF; intro a hF
    refine seq_yl hF (wn_none rfl) rfl rfl (yl_len hF rfl rfl (fun _ => run_lenRd sl23 (hS.rdRo 2 rfl))) ?_
    clear hF; intro a hF
    refine seq_yl hF (wn_none rfl) rfl rfl (yl_bin hF rfl rfl rfl rfl (fun _ => run_lss)) ?_
    clear hF; intro a hF
    refine wpList_nil ?_
    refine then_n ?_
    refine c_cond hF rfl (fun hc152 => ?_) (fun hc152 => ?_)
    · first | (replace hc152 := of_decide_eq_true hc152) | (replace hc152 := of_decide_eq_false (bnot_t hc152)) | (subst hc152) | (replace hc152 := bnot_t hc152; subst hc152) | (replace hc152 := bnot_t hc152) | skip
      refine wp_skip ?_
      refine then_n ?_
      refine c_seq ?_
      refine wp_block ?_
      refine c_seq ?_
      refine c_region ?_
      refine seq_yl hF (wn_none rfl) rfl rfl (yl_fieldAddr hF rfl rfl (fun w => by kernel_rfl : ∀ w, (Instr.fieldAt 25 (.pointer (some ⟨g150, 0, none⟩)) 3).run Try.prog w = .ok (.pointer (some ⟨g150, 3, none⟩)) w)) ?_
      clear hF; intro a hF
      refine seq_yl hF (wn_none rfl) rfl rfl (yl_load (fun _ h => h ▸ hS) hF rfl rfl 0 rfl ag23 rfl) ?_
      clear hF; intro a hF
      refine seq_yl hF (wn_none rfl) rfl rfl (yl_move hF rfl rfl) ?_
      clear hF; intro a hF
      have hlt_hx153 : k < (qL).length := by first | omega | (simp; done) | (simp; omega)
      obtain ⟨ad154, rfl⟩ := rd_some (hS.rdRo 2 rfl) hlt_hx153
      obtain ⟨x153, hx153⟩ := get_some hlt_hx153
      refine seq_yl hF (wn_none rfl) rfl rfl (yl_indexAddr hF rfl rfl rfl (fun _ => run_idx' sl23 sz39 (hS.rdRo 2 rfl) hlt_hx153)) ?_
      clear hF; intro a hF
      refine seq_yl hF (wn_none rfl) rfl rfl (yl_loadEl (rs := [.int .i64 (x153.f0), .int .i64 (x153.f1), .int .i64 (x153.f2), .int .i64 (x153.f3), .string x153.f4, .bool x153.f5, .int .i64 (x153.f6), .int .i64 (x153.f7), .int .i64 (x153.f8), .int .i64 (x153.f9), .bool x153.f10, .int .i64 (x153.f11)]) hF rfl rfl ag39 sz39 rfl (fun _ h => rd_cells (enc := enc39) (by subst h; exact hS.rdRo 2 rfl) enc39_len hx153)) ?_
      clear hF; intro a hF
      refine seq_wp (wn_none rfl) (wp_alloc (cs := #[_, _, _, _, _, _, _, _, _, _, _, _]) hF hS rfl rfl rfl zr39 rfl ?_)
      clear hF hS; intro a w g155 hF hS
      refine seq_wp (wn_none rfl) (wp_store (cs' := #[_, _, _, _, _, _, _, _, _, _, _, _]) hF hS rfl rfl rfl rfl 0 rfl sz39 (by simp [Value.cells, Value.oneCell']) (by simp [Value.cells]) rfl ?_)
      clear hF hS; intro a w hF hS
      refine wpList_nil ?_
      refine then_n ?_
      refine c_seq ?_
      refine c_region ?_
      refine seq_yl hF (wn_none rfl) rfl rfl (yl_fieldAddr hF rfl rfl (fun w => by kernel_rfl : ∀ w, (Instr.fieldAt 39 (.pointer (some ⟨g155, 0, none⟩)) 7).run Try.prog w = .ok (.pointer (some ⟨g155, 7, none⟩)) w)) ?_
      clear hF; intro a hF
      refine seq_yl hF (wn_none rfl) rfl rfl (yl_load (fun _ h => h ▸ hS) hF rfl rfl 0 rfl ag3 rfl) ?_
      clear hF; intro a hF
      refine seq_yl hF (wn_none rfl) rfl rfl (yl_bin hF rfl rfl rfl rfl (fun _ => run_geq)) ?_
      clear hF; intro a hF
      refine seq_yl hF (wn_none rfl) rfl rfl (yl_move hF rfl rfl) ?_
      clear hF; intro a hF
      refine fr_split hF (fun hc156 hF => ?_) (fun hc156 hF => ?_)
      · first | (replace hc156 := of_decide_eq_true hc156) | (replace hc156 := of_decide_eq_false (bnot_t hc156)) | (subst hc156) | (replace hc156 := bnot_t hc156; subst hc156) | (replace hc156 := bnot_t hc156) | skip
        refine seq_yl hF (wn_t hF rfl rfl rfl rfl) rfl rfl (yl_fieldAddr hF rfl rfl (fun w => by kernel_rfl : ∀ w, (Instr.fieldAt 39 (.pointer (some ⟨g155, 0, none⟩)) 7).run Try.prog w = .ok (.pointer (some ⟨g155, 7, none⟩)) w)) ?_
        clear hF; intro a hF
        refine seq_yl hF (wn_t hF rfl rfl rfl rfl) rfl rfl (yl_load (fun _ h => h ▸ hS) hF rfl rfl 0 rfl ag3 rfl) ?_
        clear hF; intro a hF
        refine seq_yl hF (wn_t hF rfl rfl rfl rfl) rfl rfl (yl_move hF rfl rfl) ?_
        clear hF; intro a hF
        refine seq_yl hF (wn_t hF rfl rfl rfl rfl) rfl rfl (yl_bin hF rfl rfl rfl rfl (fun _ => run_leq)) ?_
        clear hF; intro a hF
        refine seq_yl hF (wn_none rfl) rfl rfl (yl_pick (u := _) (v := undef) hF rfl rfl (fun _ => rfl) (fun h => by cases h)) ?_
        clear hF; intro a hF
        refine wpList_nil ?_
        refine then_n ?_
        refine c_cond hF rfl (fun hc157 => ?_) (fun hc157 => ?_)
        · first | (replace hc157 := of_decide_eq_true hc157) | (replace hc157 := of_decide_eq_false (bnot_t hc157)) | (subst hc157) | (replace hc157 := bnot_t hc157; subst hc157) | (replace hc157 := bnot_t hc157) | skip
          refine c_region ?_
          refine seq_yl hF (wn_none rfl) rfl rfl (yl_move hF rfl rfl) ?_
          clear hF; intro a hF
          refine seq_yl hF (wn_none rfl) rfl rfl (yl_loadK (rs := [_, _, _, _, _, _, _, _, _, _, _, _]) (fun _ h => h ▸ hS) hF rfl rfl 0 rfl ag39 sz39 rfl rfl) ?_
          clear hF; intro a hF
          refine seq_wp (wn_none rfl) (wp_bslice (parts := [(0, .tmp 32)]) (vs := [(0, _)]) (enc := enc39) (e := 39) (size := 12) (cs := #[.int .i64 (x153.f0), .int .i64 (x153.f1), .int .i64 (x153.f2), .int .i64 (x153.f3), .string x153.f4, .bool x153.f5, .int .i64 (x153.f6), .int .i64 (x153.f7), .int .i64 (x153.f8), .int .i64 (x153.f9), .bool x153.f10, .int .i64 (x153.f11)]) hF hS rfl rfl rfl rfl ([(E39.mk (x153.f0) (x153.f1) (x153.f2) (x153.f3) x153.f4 x153.f5 (x153.f6) (x153.f7) (x153.f8) (x153.f9) x153.f10 (x153.f11))] : List E39) (fun w => by kernel_rfl) rfl rfl rfl (by decide) ?_)
          clear hF hS; intro a w v158 hF hS
          obtain ⟨Av158, cv158, rfl⟩ := hS.form 0 rfl
          refine seq_wp (wn_none rfl) (wp_app (enc := enc39) hF hS rfl rfl rfl rfl rfl 6 rfl sl23 inf39 rfl (by decide) (hS.rdRow 0 rfl) enc39_one (by decide) (by first | omega | (simp only [List.length_append, List.length_cons, List.length_nil]; omega) | (simp; omega)) ?_)
          clear hF hS; intro a w v159 hF hS
          obtain ⟨Av159, cv159, rfl⟩ := hS.form 6 rfl
          refine seq_yl hF (wn_none rfl) rfl rfl (yl_assign hF rfl rfl) ?_
          clear hF; intro a hF
          refine wpList_nil ?_
          refine inb_n ?_
          refine then_n ?_
          refine c_region ?_
          refine seq_yl hF (wn_none rfl) rfl rfl (yl_move hF rfl rfl) ?_
          clear hF; intro a hF
          refine seq_yl hF (wn_none rfl) rfl rfl (yl_bin hF rfl rfl rfl rfl (fun _ => run_inc (by omega))) ?_
          clear hF; intro a hF
          refine seq_yl hF (wn_none rfl) rfl rfl (yl_assign hF rfl rfl) ?_
          clear hF; intro a hF
          refine wpList_nil ?_
          refine then_n ?_
          exact ⟨_, (by omega), k + 1, _, _, AvR, cvR, Av159, cv159, rfl, ⟨by omega, by first | exact (by rw [hR]; exact (due_no hx153 (by omega)).2.symm) | exact (by rw [hR]; exact (due_yes hx153 (by omega)).2.symm), by first | exact (by rw [hD]; exact (due_no hx153 (by omega)).1.symm) | exact (by rw [hD]; exact (due_yes hx153 (by omega)).1.symm), by simp at *; omega, by simp at *; omega⟩, hF.to [1, 2, 4, 6, 7, 8] rfl, (hS.sub [2, 3, 4, 5, 6] (by decide) (by first | rfl | simp) (by simp))⟩
        · first | (replace hc157 := of_decide_eq_false hc157) | (replace hc157 := of_decide_eq_true (bnot_f hc157)) | (subst hc157) | (replace hc157 := bnot_f hc157; subst hc157) | (replace hc157 := bnot_f hc157) | skip
          refine c_region ?_
          refine seq_yl hF (wn_none rfl) rfl rfl (yl_move hF rfl rfl) ?_
          clear hF; intro a hF
          refine seq_yl hF (wn_none rfl) rfl rfl (yl_loadK (rs := [_, _, _, _, _, _, _, _, _, _, _, _]) (fun _ h => h ▸ hS) hF rfl rfl 0 rfl ag39 sz39 rfl rfl) ?_
          clear hF; intro a hF
          refine seq_wp (wn_none rfl) (wp_bslice (parts := [(0, .tmp 36)]) (vs := [(0, _)]) (enc := enc39) (e := 39) (size := 12) (cs := #[.int .i64 (x153.f0), .int .i64 (x153.f1), .int .i64 (x153.f2), .int .i64 (x153.f3), .string x153.f4, .bool x153.f5, .int .i64 (x153.f6), .int .i64 (x153.f7), .int .i64 (x153.f8), .int .i64 (x153.f9), .bool x153.f10, .int .i64 (x153.f11)]) hF hS rfl rfl rfl rfl ([(E39.mk (x153.f0) (x153.f1) (x153.f2) (x153.f3) x153.f4 x153.f5 (x153.f6) (x153.f7) (x153.f8) (x153.f9) x153.f10 (x153.f11))] : List E39) (fun w => by kernel_rfl) rfl rfl rfl (by decide) ?_)
          clear hF hS; intro a w v160 hF hS
          obtain ⟨Av160, cv160, rfl⟩ := hS.form 0 rfl
          refine seq_wp (wn_none rfl) (wp_app (enc := enc39) hF hS rfl rfl rfl rfl rfl 5 rfl sl23 inf39 rfl (by decide) (hS.rdRow 0 rfl) enc39_one (by decide) (by first | omega | (simp only [List.length_append, List.length_cons, List.length_nil]; omega) | (simp; omega)) ?_)
          clear hF hS; intro a w v161 hF hS
          obtain ⟨Av161, cv161, rfl⟩ := hS.form 5 rfl
          refine seq_yl hF (wn_none rfl) rfl rfl (yl_assign hF rfl rfl) ?_
          clear hF; intro a hF
          refine wpList_nil ?_
          refine inb_n ?_
          refine then_n ?_
          refine c_region ?_
          refine seq_yl hF (wn_none rfl) rfl rfl (yl_move hF rfl rfl) ?_
          clear hF; intro a hF
          refine seq_yl hF (wn_none rfl) rfl rfl (yl_bin hF rfl rfl rfl rfl (fun _ => run_inc (by omega))) ?_
          clear hF; intro a hF
          refine seq_yl hF (wn_none rfl) rfl rfl (yl_assign hF rfl rfl) ?_
          clear hF; intro a hF
          refine wpList_nil ?_
          refine then_n ?_
          exact ⟨_, (by omega), k + 1, _, _, Av161, cv161, AvD, cvD, rfl, ⟨by omega, by first | exact (by rw [hR]; exact (due_no hx153 (by omega)).2.symm) | exact (by rw [hR]; exact (due_yes hx153 (by omega)).2.symm), by first | exact (by rw [hD]; exact (due_no hx153 (by omega)).1.symm) | exact (by rw [hD]; exact (due_yes hx153 (by omega)).1.symm), by simp at *; omega, by simp at *; omega⟩, hF.to [1, 2, 4, 6, 7, 8] rfl, (hS.sub [2, 3, 4, 5, 6] (by decide) (by first | rfl | simp) (by simp))⟩
      · first | (replace hc156 := of_decide_eq_false hc156) | (replace hc156 := of_decide_eq_true (bnot_f hc156)) | (subst hc156) | (replace hc156 := bnot_f hc156; subst hc156) | (replace hc156 := bnot_f hc156) | skip
        refine seq_skip hF (wn_f hF rfl rfl rfl rfl) rfl rfl ?_
        clear hF; intro a hF
        refine seq_skip hF (wn_f hF rfl rfl rfl rfl) rfl rfl ?_
        clear hF; intro a hF
        refine seq_skip hF (wn_f hF rfl rfl rfl rfl) rfl rfl ?_
        clear hF; intro a hF
        refine seq_skip hF (wn_f hF rfl rfl rfl rfl) rfl rfl ?_
        clear hF; intro a hF
        refine seq_yl hF (wn_none rfl) rfl rfl (yl_pick (u := _) (v := undef) hF rfl rfl (fun h => by cases h) (fun _ => rfl)) ?_
        clear hF; intro a hF
        refine wpList_nil ?_
        refine then_n ?_
        refine c_cond_f hF rfl ?_
        refine c_region ?_
        refine seq_yl hF (wn_none rfl) rfl rfl (yl_move hF rfl rfl) ?_
        clear hF; intro a hF
        refine seq_yl hF (wn_none rfl) rfl rfl (yl_loadK (rs := [_, _, _, _, _, _, _, _, _, _, _, _]) (fun _ h => h ▸ hS) hF rfl rfl 0 rfl ag39 sz39 rfl rfl) ?_
        clear hF; intro a hF
        refine seq_wp (wn_none rfl) (wp_bslice (parts := [(0, .tmp 36)]) (vs := [(0, _)]) (enc := enc39) (e := 39) (size := 12) (cs := #[.int .i64 (x153.f0), .int .i64 (x153.f1), .int .i64 (x153.f2), .int .i64 (x153.f3), .string x153.f4, .bool x153.f5, .int .i64 (x153.f6), .int .i64 (x153.f7), .int .i64 (x153.f8), .int .i64 (x153.f9), .bool x153.f10, .int .i64 (x153.f11)]) hF hS rfl rfl rfl rfl ([(E39.mk (x153.f0) (x153.f1) (x153.f2) (x153.f3) x153.f4 x153.f5 (x153.f6) (x153.f7) (x153.f8) (x153.f9) x153.f10 (x153.f11))] : List E39) (fun w => by kernel_rfl) rfl rfl rfl (by decide) ?_)
        clear hF hS; intro a w v162 hF hS
        obtain ⟨Av162, cv162, rfl⟩ := hS.form 0 rfl
        refine seq_wp (wn_none rfl) (wp_app (enc := enc39) hF hS rfl rfl rfl rfl rfl 5 rfl sl23 inf39 rfl (by decide) (hS.rdRow 0 rfl) enc39_one (by decide) (by first | omega | (simp only [List.length_append, List.length_cons, List.length_nil]; omega) | (simp; omega)) ?_)
        clear hF hS; intro a w v163 hF hS
        obtain ⟨Av163, cv163, rfl⟩ := hS.form 5 rfl
        refine seq_yl hF (wn_none rfl) rfl rfl (yl_assign hF rfl rfl) ?_
        clear hF; intro a hF
        refine wpList_nil ?_
        refine inb_n ?_
        refine then_n ?_
        refine c_region ?_
        refine seq_yl hF (wn_none rfl) rfl rfl (yl_move hF rfl rfl) ?_
        clear hF; intro a hF
        refine seq_yl hF (wn_none rfl) rfl rfl (yl_bin hF rfl rfl rfl rfl (fun _ => run_inc (by omega))) ?_
        clear hF; intro a hF
        refine seq_yl hF (wn_none rfl) rfl rfl (yl_assign hF rfl rfl) ?_
        clear hF; intro a hF
        refine wpList_nil ?_
        refine then_n ?_
        exact ⟨_, (by omega), k + 1, _, _, Av163, cv163, AvD, cvD, rfl, ⟨by omega, by first | exact (by rw [hR]; exact (due_no hx153 (by omega)).2.symm) | exact (by rw [hR]; exact (due_yes hx153 (by omega)).2.symm), by first | exact (by rw [hD]; exact (due_no hx153 (by omega)).1.symm) | exact (by rw [hD]; exact (due_yes hx153 (by omega)).1.symm), by simp at *; omega, by simp at *; omega⟩, hF.to [1, 2, 4, 6, 7, 8] rfl, (hS.sub [2, 3, 4, 5, 6] (by decide) (by first | rfl | simp) (by simp))⟩
    · first | (replace hc152 := of_decide_eq_false hc152) | (replace hc152 := of_decide_eq_true (bnot_f hc152)) | (subst hc152) | (replace hc152 := bnot_f hc152; subst hc152) | (replace hc152 := bnot_f hc152) | skip
      refine wp_exit ?_
      refine then_x ?_
      refine then_x ?_
      refine inb_x ?_
      refine then_n ?_
      refine c_seq ?_
      refine c_region ?_
      refine seq_yl hF (wn_none rfl) rfl rfl (yl_move hF rfl rfl) ?_
      clear hF; intro a hF
      refine seq_yl hF (wn_none rfl) rfl rfl (yl_fieldAddr hF rfl rfl (fun w => by kernel_rfl : ∀ w, (Instr.fieldAt 25 (.pointer (some ⟨g150, 0, none⟩)) 3).run Try.prog w = .ok (.pointer (some ⟨g150, 3, none⟩)) w)) ?_
      clear hF; intro a hF
      refine seq_wp (wn_none rfl) (wp_store (cs' := #[_, _, _, _]) hF hS rfl rfl rfl rfl 0 rfl sz23 (by simp [Value.cells, Value.oneCell']) (by simp [Value.cells]) rfl ?_)
      clear hF hS; intro a w hF hS
      refine wpList_nil ?_
      refine then_n ?_
      refine c_seq ?_
      refine c_region ?_
      refine seq_yl hF (wn_none rfl) rfl rfl (yl_loadK (rs := [_, _, _, _]) (fun _ h => h ▸ hS) hF rfl rfl 0 rfl ag25 sz25 rfl rfl) ?_
      clear hF; intro a hF
      refine seq_yl hF (wn_none rfl) rfl rfl (yl_move hF rfl rfl) ?_
      clear hF; intro a hF
      refine seq_wp (wn_none rfl) (wp_store (cs' := #[_, _, _, _]) hF hS rfl rfl rfl rfl 1 rfl sz25 (by simp [Value.cells, Value.oneCell']) (by simp [Value.cells]) rfl ?_)
      clear hF hS; intro a w hF hS
      refine seq_yl hF (wn_none rfl) rfl rfl (yl_assign hF rfl rfl) ?_
      clear hF; intro a hF
      refine wpList_nil ?_
      refine then_n ?_
      refine wp_ret ?_
      refine ret_ct hF rfl (resC hS rfl 1 rfl ag25 sz25) rfl ?_
      rw [List.take_of_length_le (by omega)] at hR hD
      subst hR hD
      exact ⟨_, rfl, _, _, rfl, (hS.sub [3, 4] (by decide) (by first | rfl | simp) (by simp))⟩

theorem next_any (qd qh qf : Int) (qL : List E39) (v : Value) (w0 : World) (hv : Rd w0 12 v (qL).length (cells enc39 (qL))) (hL : qL.length ≤ 1000000) :
    Fn Try.prog 17 #[.agg #[.int .i64 qd, .int .i64 qh, .int .i64 qf, v]] w0 (fun v w' => ∃ (l : Int) (fd : Bool), v = .tuple #[.int .i64 l, .bool fd] ∧ nextF qL 0 false = (l, fd) ∧ Sat w0 w' []) := by
  obtain ⟨Av, cv, rfl⟩ := Rd.form hv
  refine c_enter (N := 33) (l := [_]) Try.func17 rfl rfl (fun a w hF hS => ?_)
  replace hS := hS.addRo hv
  refine c_seq ?_
  refine c_region ?_
  refine seq_wp (wn_none rfl) (wp_box (cs := #[_, _, _, _]) hF hS rfl rfl rfl rfl rfl ?_)
  clear hF hS; intro a w g164 hF hS
  refine seq_yl hF (wn_none rfl) rfl rfl (yl_assign hF rfl rfl) ?_
  clear hF; intro a hF
  refine seq_yl hF (wn_none rfl) rfl rfl (yl_assign hF rfl rfl) ?_
  clear hF; intro a hF
  refine wpList_nil ?_
  refine then_n ?_
  refine c_seq ?_
  refine c_region ?_
  refine seq_yl hF (wn_none rfl) rfl rfl (yl_assign hF rfl rfl) ?_
  clear hF; intro a hF
  refine seq_yl hF (wn_none rfl) rfl rfl (yl_assign hF rfl rfl) ?_
  clear hF; intro a hF
  refine wpList_nil ?_
  refine then_n ?_
  refine c_seq ?_
  refine c_seq ?_
  refine c_region ?_
  refine seq_yl hF (wn_none rfl) rfl rfl (yl_fieldAddr hF rfl rfl (fun w => by kernel_rfl : ∀ w, (Instr.fieldAt 25 (.pointer (some ⟨g164, 0, none⟩)) 3).run Try.prog w = .ok (.pointer (some ⟨g164, 3, none⟩)) w)) ?_
  clear hF; intro a hF
  refine seq_yl hF (wn_none rfl) rfl rfl (yl_load (fun _ h => h ▸ hS) hF rfl rfl 0 rfl ag23 rfl) ?_
  clear hF; intro a hF
  refine seq_yl hF (wn_none rfl) rfl rfl (yl_len hF rfl rfl (fun _ => run_lenRd sl23 (hS.rdRo 1 rfl))) ?_
  clear hF; intro a hF
  refine seq_yl hF (wn_none rfl) rfl rfl (yl_move hF rfl rfl) ?_
  clear hF; intro a hF
  refine wpList_nil ?_
  refine then_n ?_
  refine wp_block ?_
  refine c_loop (fun m a w => ∃ (k : Nat) (l : Int) (fd : Bool), m = qL.length - k ∧ (k ≤ qL.length ∧ nextF (qL.take k) 0 false = (l, fd)) ∧ Fr 33 a [(1, .pointer (some ⟨g164, 0, none⟩)), (4, .int .i64 (l)), (5, .bool fd), (9, .slice Av (qL).length cv), (10, .int .i64 (((qL).length : Nat) : Int)), (11, .int .i64 ((k : Nat) : Int))] ∧ Sat w0 w (.box g164 25 #[.int .i64 (qd), .int .i64 (qh), .int .i64 (qf), .slice Av (qL).length cv] :: .ro 12 (.slice Av (qL).length cv) (qL).length (cells enc39 (qL)) :: [])) (qL.length - 0) ?_ ?_
  · exact ⟨0, 0, false, rfl, ⟨Nat.zero_le _, rfl⟩, hF.to [1, 4, 5, 9, 10, 11] rfl, (hS.sub [0, 1] (by decide) (by first | rfl | simp) (by simp))⟩
  · clear hF hS; try clear hSS
    clear a w; rintro m a w ⟨k, l, fd, rfl, hinv, hF, hS⟩
    obtain ⟨hk, hnx⟩ := hinv
    refine c_seq ?_
    refine c_region ?_
    refine seq_yl hF (wn_none rfl) rfl rfl (yl_bin hF rfl rfl rfl rfl (fun _ => run_lss)) ?_
    clear hF; intro a hF
    refine wpList_nil ?_
    refine then_n ?_
    refine c_seq ?_
    refine c_cond hF rfl (fun hc165 => ?_) (fun hc165 => ?_)
    · first | (replace hc165 := of_decide_eq_true hc165) | (replace hc165 := of_decide_eq_false (bnot_t hc165)) | (replace hc165 := bnot_t hc165) | skip
      refine wp_skip ?_
      refine then_n ?_
      refine c_seq ?_
      refine wp_block ?_
      refine c_seq ?_
      refine c_region ?_
      have hlt_hx166 : k < (qL).length := by first | omega | (simp; done) | (simp; omega)
      obtain ⟨ad167, rfl⟩ := rd_some (hS.rdRo 1 rfl) hlt_hx166
      obtain ⟨x166, hx166⟩ := get_some hlt_hx166
      refine seq_yl hF (wn_none rfl) rfl rfl (yl_indexAddr hF rfl rfl rfl (fun _ => run_idx' sl23 sz39 (hS.rdRo 1 rfl) hlt_hx166)) ?_
      clear hF; intro a hF
      refine seq_yl hF (wn_none rfl) rfl rfl (yl_loadEl (rs := [.int .i64 (x166.f0), .int .i64 (x166.f1), .int .i64 (x166.f2), .int .i64 (x166.f3), .string x166.f4, .bool x166.f5, .int .i64 (x166.f6), .int .i64 (x166.f7), .int .i64 (x166.f8), .int .i64 (x166.f9), .bool x166.f10, .int .i64 (x166.f11)]) hF rfl rfl ag39 sz39 rfl (fun _ h => rd_cells (enc := enc39) (by subst h; exact hS.rdRo 1 rfl) enc39_len hx166)) ?_
      clear hF; intro a hF
      refine seq_wp (wn_none rfl) (wp_alloc (cs := #[_, _, _, _, _, _, _, _, _, _, _, _]) hF hS rfl rfl rfl zr39 rfl ?_)
      clear hF hS; intro a w g168 hF hS
      refine seq_wp (wn_none rfl) (wp_store (cs' := #[_, _, _, _, _, _, _, _, _, _, _, _]) hF hS rfl rfl rfl rfl 0 rfl sz39 (by simp [Value.cells, Value.oneCell']) (by simp [Value.cells]) rfl ?_)
      clear hF hS; intro a w hF hS
      refine wpList_nil ?_
      refine then_n ?_
      refine c_seq ?_
      refine c_region ?_
      refine seq_yl hF (wn_none rfl) rfl rfl (yl_fieldAddr hF rfl rfl (fun w => by kernel_rfl : ∀ w, (Instr.fieldAt 39 (.pointer (some ⟨g168, 0, none⟩)) 7).run Try.prog w = .ok (.pointer (some ⟨g168, 7, none⟩)) w)) ?_
      clear hF; intro a hF
      refine seq_yl hF (wn_none rfl) rfl rfl (yl_load (fun _ h => h ▸ hS) hF rfl rfl 0 rfl ag3 rfl) ?_
      clear hF; intro a hF
      refine seq_yl hF (wn_none rfl) rfl rfl (yl_bin hF rfl rfl rfl rfl (fun _ => run_neq)) ?_
      clear hF; intro a hF
      refine seq_yl hF (wn_none rfl) rfl rfl (yl_move hF rfl rfl) ?_
      clear hF; intro a hF
      refine fr_split hF (fun hc169 hF => ?_) (fun hc169 hF => ?_)
      · first | (replace hc169 := of_decide_eq_true hc169) | (replace hc169 := of_decide_eq_false (bnot_t hc169)) | (replace hc169 := bnot_t hc169) | skip
        refine seq_yl hF (wn_t hF rfl rfl rfl rfl) rfl rfl (yl_move hF rfl rfl) ?_
        clear hF; intro a hF
        refine seq_yl hF (wn_t hF rfl rfl rfl rfl) rfl rfl (yl_un hF rfl rfl (fun _ => run_not)) ?_
        clear hF; intro a hF
        refine seq_yl hF (wn_t hF rfl rfl rfl rfl) rfl rfl (yl_move hF rfl rfl) ?_
        clear hF; intro a hF
        refine fr_split hF (fun hc170 hF => ?_) (fun hc170 hF => ?_)
        · first | (replace hc170 := of_decide_eq_true hc170) | (replace hc170 := of_decide_eq_false (bnot_t hc170)) | (replace hc170 := bnot_t hc170) | skip
          refine seq_skip hF (wn_f hF rfl rfl rfl rfl) rfl rfl ?_
          clear hF; intro a hF
          refine seq_skip hF (wn_f hF rfl rfl rfl rfl) rfl rfl ?_
          clear hF; intro a hF
          refine seq_skip hF (wn_f hF rfl rfl rfl rfl) rfl rfl ?_
          clear hF; intro a hF
          refine seq_skip hF (wn_f hF rfl rfl rfl rfl) rfl rfl ?_
          clear hF; intro a hF
          refine seq_yl hF (wn_t hF rfl rfl rfl rfl) rfl rfl (yl_pick (u := _) (v := undef) hF rfl rfl (fun _ => rfl) (fun h => by cases h)) ?_
          clear hF; intro a hF
          refine seq_yl hF (wn_none rfl) rfl rfl (yl_pick (u := _) (v := undef) hF rfl rfl (fun _ => rfl) (fun h => by cases h)) ?_
          clear hF; intro a hF
          refine wpList_nil ?_
          refine then_n ?_
          refine c_cond_t hF rfl ?_
          refine c_region ?_
          refine seq_yl hF (wn_none rfl) rfl rfl (yl_fieldAddr hF rfl rfl (fun w => by kernel_rfl : ∀ w, (Instr.fieldAt 39 (.pointer (some ⟨g168, 0, none⟩)) 7).run Try.prog w = .ok (.pointer (some ⟨g168, 7, none⟩)) w)) ?_
          clear hF; intro a hF
          refine seq_yl hF (wn_none rfl) rfl rfl (yl_load (fun _ h => h ▸ hS) hF rfl rfl 0 rfl ag3 rfl) ?_
          clear hF; intro a hF
          refine seq_yl hF (wn_none rfl) rfl rfl (yl_assign hF rfl rfl) ?_
          clear hF; intro a hF
          refine seq_yl hF (wn_none rfl) rfl rfl (yl_assign hF rfl rfl) ?_
          clear hF; intro a hF
          refine wpList_nil ?_
          refine inb_n ?_
          refine then_n ?_
          refine c_region ?_
          refine seq_yl hF (wn_none rfl) rfl rfl (yl_bin hF rfl rfl rfl rfl (fun _ => run_inc (by omega))) ?_
          clear hF; intro a hF
          refine seq_yl hF (wn_none rfl) rfl rfl (yl_move hF rfl rfl) ?_
          clear hF; intro a hF
          refine wpList_nil ?_
          refine then_n ?_
          exact ⟨_, (by omega), k + 1, (x166.f7), true, rfl, ⟨by omega, by first | exact next_yes hx166 hnx ⟨by omega, by first | exact .inl (by assumption) | exact .inr (by omega)⟩ | exact next_no hx166 hnx (by first | omega | (rintro ⟨h1, h2 | h2⟩ <;> first | omega | simp_all))⟩, hF.to [1, 4, 5, 9, 10, 11] rfl, (hS.sub [1, 2] (by decide) (by first | rfl | simp) (by simp))⟩
        · first | (replace hc170 := of_decide_eq_false hc170) | (replace hc170 := of_decide_eq_true (bnot_f hc170)) | (replace hc170 := bnot_f hc170) | skip
          refine seq_yl hF (wn_t hF rfl rfl rfl rfl) rfl rfl (yl_fieldAddr hF rfl rfl (fun w => by kernel_rfl : ∀ w, (Instr.fieldAt 39 (.pointer (some ⟨g168, 0, none⟩)) 7).run Try.prog w = .ok (.pointer (some ⟨g168, 7, none⟩)) w)) ?_
          clear hF; intro a hF
          refine seq_yl hF (wn_t hF rfl rfl rfl rfl) rfl rfl (yl_load (fun _ h => h ▸ hS) hF rfl rfl 0 rfl ag3 rfl) ?_
          clear hF; intro a hF
          refine seq_yl hF (wn_t hF rfl rfl rfl rfl) rfl rfl (yl_move hF rfl rfl) ?_
          clear hF; intro a hF
          refine seq_yl hF (wn_t hF rfl rfl rfl rfl) rfl rfl (yl_bin hF rfl rfl rfl rfl (fun _ => run_lss)) ?_
          clear hF; intro a hF
          refine seq_yl hF (wn_t hF rfl rfl rfl rfl) rfl rfl (yl_pick (u := _) (v := undef) hF rfl rfl (fun h => by cases h) (fun _ => rfl)) ?_
          clear hF; intro a hF
          refine seq_yl hF (wn_none rfl) rfl rfl (yl_pick (u := _) (v := undef) hF rfl rfl (fun _ => rfl) (fun h => by cases h)) ?_
          clear hF; intro a hF
          refine wpList_nil ?_
          refine then_n ?_
          refine c_cond hF rfl (fun hc171 => ?_) (fun hc171 => ?_)
          · first | (replace hc171 := of_decide_eq_true hc171) | (replace hc171 := of_decide_eq_false (bnot_t hc171)) | (replace hc171 := bnot_t hc171) | skip
            refine c_region ?_
            refine seq_yl hF (wn_none rfl) rfl rfl (yl_fieldAddr hF rfl rfl (fun w => by kernel_rfl : ∀ w, (Instr.fieldAt 39 (.pointer (some ⟨g168, 0, none⟩)) 7).run Try.prog w = .ok (.pointer (some ⟨g168, 7, none⟩)) w)) ?_
            clear hF; intro a hF
            refine seq_yl hF (wn_none rfl) rfl rfl (yl_load (fun _ h => h ▸ hS) hF rfl rfl 0 rfl ag3 rfl) ?_
            clear hF; intro a hF
            refine seq_yl hF (wn_none rfl) rfl rfl (yl_assign hF rfl rfl) ?_
            clear hF; intro a hF
            refine seq_yl hF (wn_none rfl) rfl rfl (yl_assign hF rfl rfl) ?_
            clear hF; intro a hF
            refine wpList_nil ?_
            refine inb_n ?_
            refine then_n ?_
            refine c_region ?_
            refine seq_yl hF (wn_none rfl) rfl rfl (yl_bin hF rfl rfl rfl rfl (fun _ => run_inc (by omega))) ?_
            clear hF; intro a hF
            refine seq_yl hF (wn_none rfl) rfl rfl (yl_move hF rfl rfl) ?_
            clear hF; intro a hF
            refine wpList_nil ?_
            refine then_n ?_
            exact ⟨_, (by omega), k + 1, (x166.f7), true, rfl, ⟨by omega, by first | exact next_yes hx166 hnx ⟨by omega, by first | exact .inl (by assumption) | exact .inr (by omega)⟩ | exact next_no hx166 hnx (by first | omega | (rintro ⟨h1, h2 | h2⟩ <;> first | omega | simp_all))⟩, hF.to [1, 4, 5, 9, 10, 11] rfl, (hS.sub [1, 2] (by decide) (by first | rfl | simp) (by simp))⟩
          · first | (replace hc171 := of_decide_eq_false hc171) | (replace hc171 := of_decide_eq_true (bnot_f hc171)) | (replace hc171 := bnot_f hc171) | skip
            refine wp_skip ?_
            refine inb_n ?_
            refine then_n ?_
            refine c_region ?_
            refine seq_yl hF (wn_none rfl) rfl rfl (yl_bin hF rfl rfl rfl rfl (fun _ => run_inc (by omega))) ?_
            clear hF; intro a hF
            refine seq_yl hF (wn_none rfl) rfl rfl (yl_move hF rfl rfl) ?_
            clear hF; intro a hF
            refine wpList_nil ?_
            refine then_n ?_
            exact ⟨_, (by omega), k + 1, (l), fd, rfl, ⟨by omega, by first | exact next_yes hx166 hnx ⟨by omega, by first | exact .inl (by assumption) | exact .inr (by omega)⟩ | exact next_no hx166 hnx (by first | omega | (rintro ⟨h1, h2 | h2⟩ <;> first | omega | simp_all))⟩, hF.to [1, 4, 5, 9, 10, 11] rfl, (hS.sub [1, 2] (by decide) (by first | rfl | simp) (by simp))⟩
      · first | (replace hc169 := of_decide_eq_false hc169) | (replace hc169 := of_decide_eq_true (bnot_f hc169)) | (replace hc169 := bnot_f hc169) | skip
        refine seq_skip hF (wn_f hF rfl rfl rfl rfl) rfl rfl ?_
        clear hF; intro a hF
        refine seq_skip hF (wn_f hF rfl rfl rfl rfl) rfl rfl ?_
        clear hF; intro a hF
        refine seq_skip hF (wn_f hF rfl rfl rfl rfl) rfl rfl ?_
        clear hF; intro a hF
        refine seq_skip hF (wn_u hF rfl rfl rfl rfl) rfl rfl ?_
        clear hF; intro a hF
        refine seq_skip hF (wn_u hF rfl rfl rfl rfl) rfl rfl ?_
        clear hF; intro a hF
        refine seq_skip hF (wn_u hF rfl rfl rfl rfl) rfl rfl ?_
        clear hF; intro a hF
        refine seq_skip hF (wn_u hF rfl rfl rfl rfl) rfl rfl ?_
        clear hF; intro a hF
        refine seq_skip hF (wn_f hF rfl rfl rfl rfl) rfl rfl ?_
        clear hF; intro a hF
        refine seq_yl hF (wn_none rfl) rfl rfl (yl_pick (u := _) (v := undef) hF rfl rfl (fun h => by cases h) (fun _ => rfl)) ?_
        clear hF; intro a hF
        refine wpList_nil ?_
        refine then_n ?_
        refine c_cond_f hF rfl ?_
        refine wp_skip ?_
        refine inb_n ?_
        refine then_n ?_
        refine c_region ?_
        refine seq_yl hF (wn_none rfl) rfl rfl (yl_bin hF rfl rfl rfl rfl (fun _ => run_inc (by omega))) ?_
        clear hF; intro a hF
        refine seq_yl hF (wn_none rfl) rfl rfl (yl_move hF rfl rfl) ?_
        clear hF; intro a hF
        refine wpList_nil ?_
        refine then_n ?_
        exact ⟨_, (by omega), k + 1, (l), fd, rfl, ⟨by omega, by first | exact next_yes hx166 hnx ⟨by omega, by first | exact .inl (by assumption) | exact .inr (by omega)⟩ | exact next_no hx166 hnx (by first | omega | (rintro ⟨h1, h2 | h2⟩ <;> first | omega | simp_all))⟩, hF.to [1, 4, 5, 9, 10, 11] rfl, (hS.sub [1, 2] (by decide) (by first | rfl | simp) (by simp))⟩
    · first | (replace hc165 := of_decide_eq_false hc165) | (replace hc165 := of_decide_eq_true (bnot_f hc165)) | (replace hc165 := bnot_f hc165) | skip
      refine wp_exit ?_
      refine then_x ?_
      refine then_x ?_
      refine inb_x ?_
      refine then_n ?_
      refine c_seq ?_
      refine c_region ?_
      refine seq_yl hF (wn_none rfl) rfl rfl (yl_move hF rfl rfl) ?_
      clear hF; intro a hF
      refine seq_yl hF (wn_none rfl) rfl rfl (yl_move hF rfl rfl) ?_
      clear hF; intro a hF
      refine seq_yl hF (wn_none rfl) rfl rfl (yl_assign hF rfl rfl) ?_
      clear hF; intro a hF
      refine seq_yl hF (wn_none rfl) rfl rfl (yl_assign hF rfl rfl) ?_
      clear hF; intro a hF
      refine wpList_nil ?_
      refine then_n ?_
      refine wp_ret ?_
      refine ret_tt hF rfl rfl rfl ?_
      rw [List.take_of_length_le (by omega)] at hnx
      exact ⟨_, rfl, l, fd, rfl, hnx, (hS.sub [] (by decide) (by first | rfl | simp) (by simp))⟩

theorem next2_any (qd qh qf : Int) (qL : List E39) (v : Value) (w0 : World) (hv : Rd w0 12 v (qL).length (cells enc39 (qL))) (hL : qL.length ≤ 1000000) :
    Fn Try.prog 27 #[.agg #[.int .i64 qd, .int .i64 qh, .int .i64 qf, v]] w0 (fun v w' => ∃ (l : Int) (fd : Bool), v = .tuple #[.int .i64 l, .bool fd] ∧ nextF qL 0 false = (l, fd) ∧ Sat w0 w' []) := by
  obtain ⟨Av, cv, rfl⟩ := Rd.form hv
  refine c_enter (N := 35) (l := [_]) Try.func27 rfl rfl (fun a w hF hS => ?_)
  replace hS := hS.addRo hv
  refine c_seq ?_
  refine c_region ?_
  refine seq_wp (wn_none rfl) (wp_box (cs := #[_, _, _, _]) hF hS rfl rfl rfl rfl rfl ?_)
  clear hF hS; intro a w g172 hF hS
  refine seq_yl hF (wn_none rfl) rfl rfl (yl_assign hF rfl rfl) ?_
  clear hF; intro a hF
  refine seq_yl hF (wn_none rfl) rfl rfl (yl_assign hF rfl rfl) ?_
  clear hF; intro a hF
  refine wpList_nil ?_
  refine then_n ?_
  refine c_seq ?_
  refine c_region ?_
  refine seq_yl hF (wn_none rfl) rfl rfl (yl_assign hF rfl rfl) ?_
  clear hF; intro a hF
  refine seq_yl hF (wn_none rfl) rfl rfl (yl_assign hF rfl rfl) ?_
  clear hF; intro a hF
  refine wpList_nil ?_
  refine then_n ?_
  refine c_seq ?_
  refine c_seq ?_
  refine c_region ?_
  refine seq_yl hF (wn_none rfl) rfl rfl (yl_assign hF rfl rfl) ?_
  clear hF; intro a hF
  refine wpList_nil ?_
  refine then_n ?_
  refine wp_block ?_
  refine c_loop (fun m a w => ∃ (k : Nat) (l : Int) (fd : Bool), m = qL.length - k ∧ (k ≤ qL.length ∧ nextF (qL.take k) 0 false = (l, fd)) ∧ Fr 35 a [(1, .pointer (some ⟨g172, 0, none⟩)), (4, .int .i64 (l)), (5, .bool fd), (6, .int .i64 ((k : Nat) : Int))] ∧ Sat w0 w (.box g172 25 #[.int .i64 (qd), .int .i64 (qh), .int .i64 (qf), .slice Av (qL).length cv] :: .ro 12 (.slice Av (qL).length cv) (qL).length (cells enc39 (qL)) :: [])) (qL.length - 0) ?_ ?_
  · exact ⟨0, 0, false, rfl, ⟨Nat.zero_le _, rfl⟩, hF.to [1, 4, 5, 6] rfl, (hS.sub [0, 1] (by decide) (by first | rfl | simp) (by simp))⟩
  · clear hF hS; try clear hSS
    clear a w; rintro m a w ⟨k, l, fd, rfl, hinv, hF, hS⟩
    obtain ⟨hk, hnx⟩ := hinv
    refine c_seq ?_
    refine c_seq ?_
    refine c_region ?_
    refine seq_yl hF (wn_none rfl) rfl rfl (yl_move hF rfl rfl) ?_
    clear hF; intro a hF
    refine seq_yl hF (wn_none rfl) rfl rfl (yl_fieldAddr hF rfl rfl (fun w => by kernel_rfl : ∀ w, (Instr.fieldAt 25 (.pointer (some ⟨g172, 0, none⟩)) 3).run Try.prog w = .ok (.pointer (some ⟨g172, 3, none⟩)) w)) ?_
    clear hF; intro a hF
    refine seq_yl hF (wn_none rfl) rfl rfl (yl_load (fun _ h => h ▸ hS) hF rfl rfl 0 rfl ag23 rfl) ?_
    clear hF; intro a hF
    refine seq_yl hF (wn_none rfl) rfl rfl (yl_len hF rfl rfl (fun _ => run_lenRd sl23 (hS.rdRo 1 rfl))) ?_
    clear hF; intro a hF
    refine seq_yl hF (wn_none rfl) rfl rfl (yl_bin hF rfl rfl rfl rfl (fun _ => run_lss)) ?_
    clear hF; intro a hF
    refine wpList_nil ?_
    refine then_n ?_
    refine c_cond hF rfl (fun hc173 => ?_) (fun hc173 => ?_)
    · first | (replace hc173 := of_decide_eq_true hc173) | (replace hc173 := of_decide_eq_false (bnot_t hc173)) | (replace hc173 := bnot_t hc173) | skip
      refine wp_skip ?_
      refine then_n ?_
      refine c_seq ?_
      refine wp_block ?_
      refine c_seq ?_
      refine c_region ?_
      refine seq_yl hF (wn_none rfl) rfl rfl (yl_fieldAddr hF rfl rfl (fun w => by kernel_rfl : ∀ w, (Instr.fieldAt 25 (.pointer (some ⟨g172, 0, none⟩)) 3).run Try.prog w = .ok (.pointer (some ⟨g172, 3, none⟩)) w)) ?_
      clear hF; intro a hF
      refine seq_yl hF (wn_none rfl) rfl rfl (yl_load (fun _ h => h ▸ hS) hF rfl rfl 0 rfl ag23 rfl) ?_
      clear hF; intro a hF
      refine seq_yl hF (wn_none rfl) rfl rfl (yl_move hF rfl rfl) ?_
      clear hF; intro a hF
      have hlt_hx174 : k < (qL).length := by first | omega | (simp; done) | (simp; omega)
      obtain ⟨ad175, rfl⟩ := rd_some (hS.rdRo 1 rfl) hlt_hx174
      obtain ⟨x174, hx174⟩ := get_some hlt_hx174
      refine seq_yl hF (wn_none rfl) rfl rfl (yl_indexAddr hF rfl rfl rfl (fun _ => run_idx' sl23 sz39 (hS.rdRo 1 rfl) hlt_hx174)) ?_
      clear hF; intro a hF
      refine seq_yl hF (wn_none rfl) rfl rfl (yl_fieldAddr hF rfl rfl (fun w => run_fa fo39_7)) ?_
      clear hF; intro a hF
      refine seq_yl hF (wn_none rfl) rfl rfl (yl_loadAt hF rfl rfl ag3 (fun _ h => rd_cell (j := 7) (enc := enc39) (by subst h; exact hS.rdRo 1 rfl) enc39_len hx174 rfl rfl)) ?_
      clear hF; intro a hF
      refine seq_yl hF (wn_none rfl) rfl rfl (yl_assign hF rfl rfl) ?_
      clear hF; intro a hF
      refine wpList_nil ?_
      refine then_n ?_
      refine c_seq ?_
      refine c_region ?_
      refine seq_yl hF (wn_none rfl) rfl rfl (yl_move hF rfl rfl) ?_
      clear hF; intro a hF
      refine seq_yl hF (wn_none rfl) rfl rfl (yl_bin hF rfl rfl rfl rfl (fun _ => run_neq)) ?_
      clear hF; intro a hF
      refine seq_yl hF (wn_none rfl) rfl rfl (yl_move hF rfl rfl) ?_
      clear hF; intro a hF
      refine fr_split hF (fun hc176 hF => ?_) (fun hc176 hF => ?_)
      · first | (replace hc176 := of_decide_eq_true hc176) | (replace hc176 := of_decide_eq_false (bnot_t hc176)) | (replace hc176 := bnot_t hc176) | skip
        refine seq_yl hF (wn_t hF rfl rfl rfl rfl) rfl rfl (yl_move hF rfl rfl) ?_
        clear hF; intro a hF
        refine seq_yl hF (wn_t hF rfl rfl rfl rfl) rfl rfl (yl_un hF rfl rfl (fun _ => run_not)) ?_
        clear hF; intro a hF
        refine seq_yl hF (wn_t hF rfl rfl rfl rfl) rfl rfl (yl_move hF rfl rfl) ?_
        clear hF; intro a hF
        refine fr_split hF (fun hc177 hF => ?_) (fun hc177 hF => ?_)
        · first | (replace hc177 := of_decide_eq_true hc177) | (replace hc177 := of_decide_eq_false (bnot_t hc177)) | (replace hc177 := bnot_t hc177) | skip
          refine seq_skip hF (wn_f hF rfl rfl rfl rfl) rfl rfl ?_
          clear hF; intro a hF
          refine seq_skip hF (wn_f hF rfl rfl rfl rfl) rfl rfl ?_
          clear hF; intro a hF
          refine seq_skip hF (wn_f hF rfl rfl rfl rfl) rfl rfl ?_
          clear hF; intro a hF
          refine seq_yl hF (wn_t hF rfl rfl rfl rfl) rfl rfl (yl_pick (u := _) (v := undef) hF rfl rfl (fun _ => rfl) (fun h => by cases h)) ?_
          clear hF; intro a hF
          refine seq_yl hF (wn_none rfl) rfl rfl (yl_pick (u := _) (v := undef) hF rfl rfl (fun _ => rfl) (fun h => by cases h)) ?_
          clear hF; intro a hF
          refine wpList_nil ?_
          refine then_n ?_
          refine c_cond_t hF rfl ?_
          refine c_region ?_
          refine seq_yl hF (wn_none rfl) rfl rfl (yl_move hF rfl rfl) ?_
          clear hF; intro a hF
          refine seq_yl hF (wn_none rfl) rfl rfl (yl_assign hF rfl rfl) ?_
          clear hF; intro a hF
          refine seq_yl hF (wn_none rfl) rfl rfl (yl_assign hF rfl rfl) ?_
          clear hF; intro a hF
          refine wpList_nil ?_
          refine inb_n ?_
          refine then_n ?_
          refine c_region ?_
          refine seq_yl hF (wn_none rfl) rfl rfl (yl_move hF rfl rfl) ?_
          clear hF; intro a hF
          refine seq_yl hF (wn_none rfl) rfl rfl (yl_bin hF rfl rfl rfl rfl (fun _ => run_inc (by omega))) ?_
          clear hF; intro a hF
          refine seq_yl hF (wn_none rfl) rfl rfl (yl_assign hF rfl rfl) ?_
          clear hF; intro a hF
          refine wpList_nil ?_
          refine then_n ?_
          exact ⟨_, (by omega), k + 1, (x174.f7), true, rfl, ⟨by omega, by first | exact next_yes hx174 hnx ⟨by omega, by first | exact .inl (by assumption) | exact .inr (by omega)⟩ | exact next_no hx174 hnx (by first | omega | (rintro ⟨h1, h2 | h2⟩ <;> first | omega | simp_all))⟩, hF.to [1, 4, 5, 6] rfl, (hS.sub [0, 1] (by decide) (by first | rfl | simp) (by simp))⟩
        · first | (replace hc177 := of_decide_eq_false hc177) | (replace hc177 := of_decide_eq_true (bnot_f hc177)) | (replace hc177 := bnot_f hc177) | skip
          refine seq_yl hF (wn_t hF rfl rfl rfl rfl) rfl rfl (yl_move hF rfl rfl) ?_
          clear hF; intro a hF
          refine seq_yl hF (wn_t hF rfl rfl rfl rfl) rfl rfl (yl_move hF rfl rfl) ?_
          clear hF; intro a hF
          refine seq_yl hF (wn_t hF rfl rfl rfl rfl) rfl rfl (yl_bin hF rfl rfl rfl rfl (fun _ => run_lss)) ?_
          clear hF; intro a hF
          refine seq_yl hF (wn_t hF rfl rfl rfl rfl) rfl rfl (yl_pick (u := _) (v := undef) hF rfl rfl (fun h => by cases h) (fun _ => rfl)) ?_
          clear hF; intro a hF
          refine seq_yl hF (wn_none rfl) rfl rfl (yl_pick (u := _) (v := undef) hF rfl rfl (fun _ => rfl) (fun h => by cases h)) ?_
          clear hF; intro a hF
          refine wpList_nil ?_
          refine then_n ?_
          refine c_cond hF rfl (fun hc178 => ?_) (fun hc178 => ?_)
          · first | (replace hc178 := of_decide_eq_true hc178) | (replace hc178 := of_decide_eq_false (bnot_t hc178)) | (replace hc178 := bnot_t hc178) | skip
            refine c_region ?_
            refine seq_yl hF (wn_none rfl) rfl rfl (yl_move hF rfl rfl) ?_
            clear hF; intro a hF
            refine seq_yl hF (wn_none rfl) rfl rfl (yl_assign hF rfl rfl) ?_
            clear hF; intro a hF
            refine seq_yl hF (wn_none rfl) rfl rfl (yl_assign hF rfl rfl) ?_
            clear hF; intro a hF
            refine wpList_nil ?_
            refine inb_n ?_
            refine then_n ?_
            refine c_region ?_
            refine seq_yl hF (wn_none rfl) rfl rfl (yl_move hF rfl rfl) ?_
            clear hF; intro a hF
            refine seq_yl hF (wn_none rfl) rfl rfl (yl_bin hF rfl rfl rfl rfl (fun _ => run_inc (by omega))) ?_
            clear hF; intro a hF
            refine seq_yl hF (wn_none rfl) rfl rfl (yl_assign hF rfl rfl) ?_
            clear hF; intro a hF
            refine wpList_nil ?_
            refine then_n ?_
            exact ⟨_, (by omega), k + 1, (x174.f7), true, rfl, ⟨by omega, by first | exact next_yes hx174 hnx ⟨by omega, by first | exact .inl (by assumption) | exact .inr (by omega)⟩ | exact next_no hx174 hnx (by first | omega | (rintro ⟨h1, h2 | h2⟩ <;> first | omega | simp_all))⟩, hF.to [1, 4, 5, 6] rfl, (hS.sub [0, 1] (by decide) (by first | rfl | simp) (by simp))⟩
          · first | (replace hc178 := of_decide_eq_false hc178) | (replace hc178 := of_decide_eq_true (bnot_f hc178)) | (replace hc178 := bnot_f hc178) | skip
            refine wp_skip ?_
            refine inb_n ?_
            refine then_n ?_
            refine c_region ?_
            refine seq_yl hF (wn_none rfl) rfl rfl (yl_move hF rfl rfl) ?_
            clear hF; intro a hF
            refine seq_yl hF (wn_none rfl) rfl rfl (yl_bin hF rfl rfl rfl rfl (fun _ => run_inc (by omega))) ?_
            clear hF; intro a hF
            refine seq_yl hF (wn_none rfl) rfl rfl (yl_assign hF rfl rfl) ?_
            clear hF; intro a hF
            refine wpList_nil ?_
            refine then_n ?_
            exact ⟨_, (by omega), k + 1, (l), fd, rfl, ⟨by omega, by first | exact next_yes hx174 hnx ⟨by omega, by first | exact .inl (by assumption) | exact .inr (by omega)⟩ | exact next_no hx174 hnx (by first | omega | (rintro ⟨h1, h2 | h2⟩ <;> first | omega | simp_all))⟩, hF.to [1, 4, 5, 6] rfl, (hS.sub [0, 1] (by decide) (by first | rfl | simp) (by simp))⟩
      · first | (replace hc176 := of_decide_eq_false hc176) | (replace hc176 := of_decide_eq_true (bnot_f hc176)) | (replace hc176 := bnot_f hc176) | skip
        refine seq_skip hF (wn_f hF rfl rfl rfl rfl) rfl rfl ?_
        clear hF; intro a hF
        refine seq_skip hF (wn_f hF rfl rfl rfl rfl) rfl rfl ?_
        clear hF; intro a hF
        refine seq_skip hF (wn_f hF rfl rfl rfl rfl) rfl rfl ?_
        clear hF; intro a hF
        refine seq_skip hF (wn_u hF rfl rfl rfl rfl) rfl rfl ?_
        clear hF; intro a hF
        refine seq_skip hF (wn_u hF rfl rfl rfl rfl) rfl rfl ?_
        clear hF; intro a hF
        refine seq_skip hF (wn_u hF rfl rfl rfl rfl) rfl rfl ?_
        clear hF; intro a hF
        refine seq_skip hF (wn_f hF rfl rfl rfl rfl) rfl rfl ?_
        clear hF; intro a hF
        refine seq_yl hF (wn_none rfl) rfl rfl (yl_pick (u := _) (v := undef) hF rfl rfl (fun h => by cases h) (fun _ => rfl)) ?_
        clear hF; intro a hF
        refine wpList_nil ?_
        refine then_n ?_
        refine c_cond_f hF rfl ?_
        refine wp_skip ?_
        refine inb_n ?_
        refine then_n ?_
        refine c_region ?_
        refine seq_yl hF (wn_none rfl) rfl rfl (yl_move hF rfl rfl) ?_
        clear hF; intro a hF
        refine seq_yl hF (wn_none rfl) rfl rfl (yl_bin hF rfl rfl rfl rfl (fun _ => run_inc (by omega))) ?_
        clear hF; intro a hF
        refine seq_yl hF (wn_none rfl) rfl rfl (yl_assign hF rfl rfl) ?_
        clear hF; intro a hF
        refine wpList_nil ?_
        refine then_n ?_
        exact ⟨_, (by omega), k + 1, (l), fd, rfl, ⟨by omega, by first | exact next_yes hx174 hnx ⟨by omega, by first | exact .inl (by assumption) | exact .inr (by omega)⟩ | exact next_no hx174 hnx (by first | omega | (rintro ⟨h1, h2 | h2⟩ <;> first | omega | simp_all))⟩, hF.to [1, 4, 5, 6] rfl, (hS.sub [0, 1] (by decide) (by first | rfl | simp) (by simp))⟩
    · first | (replace hc173 := of_decide_eq_false hc173) | (replace hc173 := of_decide_eq_true (bnot_f hc173)) | (replace hc173 := bnot_f hc173) | skip
      refine wp_exit ?_
      refine then_x ?_
      refine then_x ?_
      refine inb_x ?_
      refine then_n ?_
      refine c_seq ?_
      refine c_region ?_
      refine seq_yl hF (wn_none rfl) rfl rfl (yl_move hF rfl rfl) ?_
      clear hF; intro a hF
      refine seq_yl hF (wn_none rfl) rfl rfl (yl_move hF rfl rfl) ?_
      clear hF; intro a hF
      refine seq_yl hF (wn_none rfl) rfl rfl (yl_assign hF rfl rfl) ?_
      clear hF; intro a hF
      refine seq_yl hF (wn_none rfl) rfl rfl (yl_assign hF rfl rfl) ?_
      clear hF; intro a hF
      refine wpList_nil ?_
      refine then_n ?_
      refine wp_ret ?_
      refine ret_tt hF rfl rfl rfl ?_
      rw [List.take_of_length_le (by omega)] at hnx
      exact ⟨_, rfl, l, fd, rfl, hnx, (hS.sub [] (by decide) (by first | rfl | simp) (by simp))⟩

theorem reset_any (qd qh qf : Int) (qL : List E39) (now : Int) (v : Value) (w0 : World) (hv : Rd w0 12 v (qL).length (cells enc39 (qL))) (hL : qL.length ≤ 1000000) :
    Fn Try.prog 19 #[.agg #[.int .i64 qd, .int .i64 qh, .int .i64 qf, v], .int .i64 now] w0 (fun v w' => ∃ v1 v2, v = .tuple #[.agg #[.int .i64 qd, .int .i64 0, .int .i64 now, v1], v2] ∧ Sat w0 w' [.row 39 12 v1 (([] : List E39)).length (cells enc39 (([] : List E39))), .row 39 12 v2 (qL).length (cells enc39 (qL))]) := by
  obtain ⟨Av, cv, rfl⟩ := Rd.form hv
  refine c_enter (N := 16) (l := [_, _]) Try.func19 rfl rfl (fun a w hF hS => ?_)
  replace hS := hS.addRo hv
  refine c_seq ?_
  refine c_region ?_
  refine seq_wp (wn_none rfl) (wp_box (cs := #[_, _, _, _]) hF hS rfl rfl rfl rfl rfl ?_)
  clear hF hS; intro a w g179 hF hS
  refine seq_wp (wn_none rfl) (wp_alloc (cs := #[_, _, _, _]) hF hS rfl rfl rfl zr25 rfl ?_)
  clear hF hS; intro a w g180 hF hS
  refine seq_yl hF (wn_none rfl) rfl rfl (yl_assign hF rfl rfl) ?_
  clear hF; intro a hF
  refine wpList_nil ?_
  refine then_n ?_
  refine c_seq ?_
  refine c_region ?_
  refine seq_yl hF (wn_none rfl) rfl rfl (yl_fieldAddr hF rfl rfl (fun w => by kernel_rfl : ∀ w, (Instr.fieldAt 25 (.pointer (some ⟨g179, 0, none⟩)) 3).run Try.prog w = .ok (.pointer (some ⟨g179, 3, none⟩)) w)) ?_
  clear hF; intro a hF
  refine seq_yl hF (wn_none rfl) rfl rfl (yl_load (fun _ h => h ▸ hS) hF rfl rfl 1 rfl ag23 rfl) ?_
  clear hF; intro a hF
  refine seq_wp (wn_none rfl) (wp_call (vs := [_]) hF rfl rfl rfl rfl cf32 (cloneC_any _ _ _ (hS.rdRo 2 rfl) (by first | omega | (simp; done) | (simp; omega))) ?_)
  clear hF; rintro _ w ⟨v181, rfl, hS1⟩ a hF
  replace hS := hS.callB hS1 rfl; clear hS1
  obtain ⟨Av181, cv181, rfl⟩ := hS.form 0 rfl
  refine seq_yl hF (wn_none rfl) rfl rfl (yl_assign hF rfl rfl) ?_
  clear hF; intro a hF
  refine wpList_nil ?_
  refine then_n ?_
  refine c_seq ?_
  refine c_region ?_
  refine seq_yl hF (wn_none rfl) rfl rfl (yl_move hF rfl rfl) ?_
  clear hF; intro a hF
  refine seq_yl hF (wn_none rfl) rfl rfl (yl_fieldAddr hF rfl rfl (fun w => by kernel_rfl : ∀ w, (Instr.fieldAt 25 (.pointer (some ⟨g179, 0, none⟩)) 3).run Try.prog w = .ok (.pointer (some ⟨g179, 3, none⟩)) w)) ?_
  clear hF; intro a hF
  refine seq_wp (wn_none rfl) (wp_store (cs' := #[_, _, _, _]) hF hS rfl rfl rfl rfl 2 rfl sz23 (by simp [Value.cells, Value.oneCell']) (by simp [Value.cells]) rfl ?_)
  clear hF hS; intro a w hF hS
  refine seq_yl hF (wn_none rfl) rfl rfl (yl_fieldAddr hF rfl rfl (fun w => by kernel_rfl : ∀ w, (Instr.fieldAt 25 (.pointer (some ⟨g179, 0, none⟩)) 2).run Try.prog w = .ok (.pointer (some ⟨g179, 2, none⟩)) w)) ?_
  clear hF; intro a hF
  refine seq_wp (wn_none rfl) (wp_store (cs' := #[_, _, _, _]) hF hS rfl rfl rfl rfl 2 rfl sz3 (by simp [Value.cells, Value.oneCell']) (by simp [Value.cells]) rfl ?_)
  clear hF hS; intro a w hF hS
  refine seq_yl hF (wn_none rfl) rfl rfl (yl_fieldAddr hF rfl rfl (fun w => by kernel_rfl : ∀ w, (Instr.fieldAt 25 (.pointer (some ⟨g179, 0, none⟩)) 1).run Try.prog w = .ok (.pointer (some ⟨g179, 1, none⟩)) w)) ?_
  clear hF; intro a hF
  refine seq_wp (wn_none rfl) (wp_store (cs' := #[_, _, _, _]) hF hS rfl rfl rfl rfl 2 rfl sz3 (by simp [Value.cells, Value.oneCell']) (by simp [Value.cells]) rfl ?_)
  clear hF hS; intro a w hF hS
  refine wpList_nil ?_
  refine then_n ?_
  refine c_seq ?_
  refine c_region ?_
  refine seq_yl hF (wn_none rfl) rfl rfl (yl_loadK (rs := [_, _, _, _]) (fun _ h => h ▸ hS) hF rfl rfl 2 rfl ag25 sz25 rfl rfl) ?_
  clear hF; intro a hF
  refine seq_yl hF (wn_none rfl) rfl rfl (yl_move hF rfl rfl) ?_
  clear hF; intro a hF
  refine seq_wp (wn_none rfl) (wp_store (cs' := #[_, _, _, _]) hF hS rfl rfl rfl rfl 1 rfl sz25 (by simp [Value.cells, Value.oneCell']) (by simp [Value.cells]) rfl ?_)
  clear hF hS; intro a w hF hS
  refine seq_yl hF (wn_none rfl) rfl rfl (yl_assign hF rfl rfl) ?_
  clear hF; intro a hF
  refine wpList_nil ?_
  refine then_n ?_
  refine wp_ret ?_
  refine ret_ct hF rfl (resC hS rfl 1 rfl ag25 sz25) rfl ?_
  replace hS := hS.addNil 39 12
  exact ⟨_, rfl, _, _, rfl, (hS.sub [0, 1] (by decide) (by first | rfl | simp) (by simp))⟩

theorem reset2_any (qd qh qf : Int) (qL : List E39) (now : Int) (v : Value) (w0 : World) (hv : Rd w0 12 v (qL).length (cells enc39 (qL))) (hL : qL.length ≤ 1000000) :
    Fn Try.prog 26 #[.agg #[.int .i64 qd, .int .i64 qh, .int .i64 qf, v], .int .i64 now] w0 (fun v w' => ∃ v1 v2, v = .tuple #[.agg #[.int .i64 qd, .int .i64 0, .int .i64 now, v1], v2] ∧ Sat w0 w' [.row 39 12 v1 (([] : List E39)).length (cells enc39 (([] : List E39))), .row 39 12 v2 (qL).length (cells enc39 (qL))]) := by
  obtain ⟨Av, cv, rfl⟩ := Rd.form hv
  refine c_enter (N := 15) (l := [_, _]) Try.func26 rfl rfl (fun a w hF hS => ?_)
  replace hS := hS.addRo hv
  refine c_seq ?_
  refine c_region ?_
  refine seq_wp (wn_none rfl) (wp_box (cs := #[_, _, _, _]) hF hS rfl rfl rfl rfl rfl ?_)
  clear hF hS; intro a w g182 hF hS
  refine seq_wp (wn_none rfl) (wp_alloc (cs := #[_, _, _, _]) hF hS rfl rfl rfl zr25 rfl ?_)
  clear hF hS; intro a w g183 hF hS
  refine seq_yl hF (wn_none rfl) rfl rfl (yl_assign hF rfl rfl) ?_
  clear hF; intro a hF
  refine wpList_nil ?_
  refine then_n ?_
  refine c_seq ?_
  refine c_region ?_
  refine seq_yl hF (wn_none rfl) rfl rfl (yl_fieldAddr hF rfl rfl (fun w => by kernel_rfl : ∀ w, (Instr.fieldAt 25 (.pointer (some ⟨g182, 0, none⟩)) 3).run Try.prog w = .ok (.pointer (some ⟨g182, 3, none⟩)) w)) ?_
  clear hF; intro a hF
  refine seq_yl hF (wn_none rfl) rfl rfl (yl_load (fun _ h => h ▸ hS) hF rfl rfl 1 rfl ag23 rfl) ?_
  clear hF; intro a hF
  refine seq_wp (wn_none rfl) (wp_app0 (enc := enc39) hF hS rfl rfl rfl rfl rfl sl23 inf39 rfl (by decide) (hS.rdRo 2 rfl) enc39_one (by decide) (by first | omega | (simp only [List.length_append, List.length_cons, List.length_nil]; omega) | (simp; omega)) ?_)
  clear hF hS; intro a w v184 hF hS
  obtain ⟨Av184, cv184, rfl⟩ := hS.form 0 rfl
  refine seq_yl hF (wn_none rfl) rfl rfl (yl_assign hF rfl rfl) ?_
  clear hF; intro a hF
  refine wpList_nil ?_
  refine then_n ?_
  refine c_seq ?_
  refine c_region ?_
  refine seq_yl hF (wn_none rfl) rfl rfl (yl_fieldAddr hF rfl rfl (fun w => by kernel_rfl : ∀ w, (Instr.fieldAt 25 (.pointer (some ⟨g182, 0, none⟩)) 0).run Try.prog w = .ok (.pointer (some ⟨g182, 0, none⟩)) w)) ?_
  clear hF; intro a hF
  refine seq_yl hF (wn_none rfl) rfl rfl (yl_load (fun _ h => h ▸ hS) hF rfl rfl 2 rfl ag3 rfl) ?_
  clear hF; intro a hF
  refine seq_yl hF (wn_none rfl) rfl rfl (yl_move hF rfl rfl) ?_
  clear hF; intro a hF
  refine seq_yl hF (wn_none rfl) rfl rfl (yl_build (parts := [(0, .tmp 11), (2, .tmp 12)]) (vs := [(0, _), (2, _)]) (cs := [_, _, _, _]) hF bd25 rfl rfl rfl rfl) ?_
  clear hF; intro a hF
  refine seq_yl hF (wn_none rfl) rfl rfl (yl_move hF rfl rfl) ?_
  clear hF; intro a hF
  refine seq_wp (wn_none rfl) (wp_store (cs' := #[_, _, _, _]) hF hS rfl rfl rfl rfl 1 rfl sz25 (by simp [Value.cells, Value.oneCell']) (by simp [Value.cells]) rfl ?_)
  clear hF hS; intro a w hF hS
  refine seq_yl hF (wn_none rfl) rfl rfl (yl_assign hF rfl rfl) ?_
  clear hF; intro a hF
  refine wpList_nil ?_
  refine then_n ?_
  refine wp_ret ?_
  refine ret_ct hF rfl (resC hS rfl 1 rfl ag25 sz25) rfl ?_
  replace hS := hS.addNil 39 12
  exact ⟨_, rfl, _, _, rfl, (hS.sub [0, 1] (by decide) (by first | rfl | simp) (by simp))⟩

end Go.Proofs.Ytjjjmpkmjicpbaa

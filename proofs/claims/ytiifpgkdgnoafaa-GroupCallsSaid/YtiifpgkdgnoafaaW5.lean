/- walks, printed by wip/gen -/
import Derived.Test.YtiifpgkdgnoafaaW1
import Derived.Test.YtiifpgkdgnoafaaA1
namespace Go.Proofs.Ytiifpgkdgnoafaa
open Go.RowKit
set_option linter.unusedVariables false
set_option linter.unusedSimpArgs false

theorem next_any (w0 w : World) (Ht : List Chunk) (g : Nat) (Av : Option Addr) (cv : Nat) (L : List Int) (i : Nat) (m : Int) (hm : 1 ≤ m ∧ m ≤ 9223372036854775807) (hS : Sat w0 w (.box g 25 #[.slice Av L.length cv, .int .i64 ((i : Nat) : Int)] :: .ro 1 (.slice Av L.length cv) L.length (cells encI L) :: Ht)) (hi : i ≤ L.length) (hL : L.length ≤ 9223372036854775807) :
    Fn Try.prog 9 #[.pointer (some ⟨g, 0, none⟩), .int .i64 m] w (fun v w' => ∃ (r : Int) (i' : Nat), v = .int .i64 r ∧ (0 ≤ r ∧ r < m) ∧ i' ≤ L.length ∧ Sat w0 w' (.box g 25 #[.slice Av L.length cv, .int .i64 ((i' : Nat) : Int)] :: .ro 1 (.slice Av L.length cv) L.length (cells encI L) :: Ht)) := by
  refine c_enterS (N := 35) (l := [_, _]) Try.func9 rfl rfl (fun a hF => ?_)
  refine c_seq ?_
  refine c_region ?_
  refine seq_yl hF (wn_none rfl) rfl rfl (yl_assign hF rfl rfl) ?_
  clear hF; intro a hF
  refine wpList_nil ?_
  refine then_n ?_
  refine c_seq ?_
  refine c_seq ?_
  refine ha_startS hS [0] 10 (by kernel_rfl) ?_; clear hS; intro w hS
  have hSS := hS.sub [0] (by decide) rfl (by simp)
  refine ha_yl 0 hF rfl rfl rfl (by kernel_rfl) (by kernel_rfl) (by kernel_rfl) (by decide) (fun _ _ _ h => h) (wn_none rfl) (.inr hSS) (yl_move hF rfl rfl) ?_
  clear hF; intro a hF
  refine ha_yl 1 hF rfl rfl rfl (by kernel_rfl) (by kernel_rfl) (by kernel_rfl) (by decide) (fun _ _ _ h => h) (wn_none rfl) (.inr hSS) (yl_nilCheck hF rfl rfl) ?_
  clear hF; intro a hF
  refine ha_yl 2 hF rfl rfl rfl (by kernel_rfl) (by kernel_rfl) (by kernel_rfl) (by decide) (fun _ _ _ h => h) (wn_none rfl) (.inr hSS) (yl_fieldAddr hF rfl rfl (fun w => by kernel_rfl : ∀ w, (Instr.fieldAt 25 (.pointer (some ⟨g, 0, none⟩)) 1).run Try.prog w = .ok (.pointer (some ⟨g, 1, none⟩)) w)) ?_
  clear hF; intro a hF
  refine ha_yl 4 hF rfl rfl rfl (by kernel_rfl) (by kernel_rfl) (by kernel_rfl) (by decide) (fun _ _ _ h => h) (wn_none rfl) (.inr hSS) (yl_move hF rfl rfl) ?_
  clear hF; intro a hF
  refine ha_yl 5 hF rfl rfl rfl (by kernel_rfl) (by kernel_rfl) (by kernel_rfl) (by decide) (fun _ _ _ h => h) (wn_none rfl) (.inr hSS) (yl_nilCheck hF rfl rfl) ?_
  clear hF; intro a hF
  refine ha_yl 6 hF rfl rfl rfl (by kernel_rfl) (by kernel_rfl) (by kernel_rfl) (by decide) (fun _ _ _ h => h) (wn_none rfl) (.inr hSS) (yl_fieldAddr hF rfl rfl (fun w => by kernel_rfl : ∀ w, (Instr.fieldAt 25 (.pointer (some ⟨g, 0, none⟩)) 0).run Try.prog w = .ok (.pointer (some ⟨g, 0, none⟩)) w)) ?_
  clear hF; intro a hF
  refine ha_ld 3 hF rfl rfl rfl (by kernel_rfl) (by kernel_rfl) (by kernel_rfl) (by decide) (by kernel_rfl) (by kernel_rfl) (fun _ _ _ h => h) (wn_none rfl) hSS (yl_load (fun _ h => h) hF rfl rfl 0 rfl ag3 rfl) ?_
  clear hF; intro a hF
  refine ha_ld 7 hF rfl rfl rfl (by kernel_rfl) (by kernel_rfl) (by kernel_rfl) (by decide) (by kernel_rfl) (by kernel_rfl) (fun _ _ _ h => h) (wn_none rfl) hSS (yl_load (fun _ h => h) hF rfl rfl 0 rfl ag22 rfl) ?_
  clear hF; intro a hF
  refine ha_yl 8 hF rfl rfl rfl (by kernel_rfl) (by kernel_rfl) (by kernel_rfl) (by decide) (fun _ _ _ h => h) (wn_none rfl) (.inr hSS) (yl_len hF rfl rfl (fun _ => run_lenRd sl22 (hS.rdRo 1 rfl))) ?_
  clear hF; intro a hF
  refine ha_yl 9 hF rfl rfl rfl (by kernel_rfl) (by kernel_rfl) (by kernel_rfl) (by decide) (fun _ _ _ h => h) (wn_none rfl) (.inr hSS) (yl_bin hF rfl rfl rfl rfl (fun _ => run_geq)) ?_
  clear hF; intro a hF
  refine ha_done (by kernel_rfl) ?_ _
  refine then_n ?_
  refine c_cond hF rfl (fun hc92 => ?_) (fun hc92 => ?_)
  · first | (replace hc92 := of_decide_eq_true hc92) | (replace hc92 := of_decide_eq_false (bnot_t hc92)) | (subst hc92) | (replace hc92 := bnot_t hc92; subst hc92) | (replace hc92 := bnot_t hc92) | skip
    refine c_seq ?_
    refine c_region ?_
    refine seq_yl hF (wn_none rfl) rfl rfl (yl_assign hF rfl rfl) ?_
    clear hF; intro a hF
    refine wpList_nil ?_
    refine then_n ?_
    refine wp_ret ?_
    refine then_r ?_
    refine ret_t hF rfl rfl ?_
    exact ⟨_, rfl, _, i, rfl, ⟨by omega, by omega⟩, by omega, (hS.subT 2 [0, 1] (by decide) (by first | rfl | simp) (by simp) (by simp))⟩
  · first | (replace hc92 := of_decide_eq_false hc92) | (replace hc92 := of_decide_eq_true (bnot_f hc92)) | (subst hc92) | (replace hc92 := bnot_f hc92; subst hc92) | (replace hc92 := bnot_f hc92) | skip
    refine wp_skip ?_
    refine then_n ?_
    refine c_seq ?_
    refine c_region ?_
    refine seq_yl hF (wn_none rfl) rfl rfl (yl_move hF rfl rfl) ?_
    clear hF; intro a hF
    refine seq_yl hF (wn_none rfl) rfl rfl (yl_nilCheck hF rfl rfl) ?_
    clear hF; intro a hF
    refine seq_yl hF (wn_none rfl) rfl rfl (yl_fieldAddr hF rfl rfl (fun w => by kernel_rfl : ∀ w, (Instr.fieldAt 25 (.pointer (some ⟨g, 0, none⟩)) 1).run Try.prog w = .ok (.pointer (some ⟨g, 1, none⟩)) w)) ?_
    clear hF; intro a hF
    refine seq_yl hF (wn_none rfl) rfl rfl (yl_load (fun _ h => h ▸ hS) hF rfl rfl 0 rfl ag3 rfl) ?_
    clear hF; intro a hF
    refine seq_yl hF (wn_none rfl) rfl rfl (yl_bin hF rfl rfl rfl rfl (fun _ => run_inc (by omega))) ?_
    clear hF; intro a hF
    refine seq_yl hF (wn_none rfl) rfl rfl (yl_nilCheck hF rfl rfl) ?_
    clear hF; intro a hF
    refine seq_yl hF (wn_none rfl) rfl rfl (yl_fieldAddr hF rfl rfl (fun w => by kernel_rfl : ∀ w, (Instr.fieldAt 25 (.pointer (some ⟨g, 0, none⟩)) 1).run Try.prog w = .ok (.pointer (some ⟨g, 1, none⟩)) w)) ?_
    clear hF; intro a hF
    refine seq_wp (wn_none rfl) (wp_store (cs' := #[_, _]) hF hS rfl rfl rfl rfl 0 rfl sz3 (by simp [Value.cells, Value.oneCell']) (by simp [Value.cells]) rfl ?_)
    clear hF hS; intro a w hF hS
    refine wpList_nil ?_
    refine then_n ?_
    refine c_seq ?_
    refine ha_startS hS [0, 1] 14 (by kernel_rfl) ?_; clear hS; intro w hS
    have hSS := hS.sub [0, 1] (by decide) rfl (by simp)
    refine ha_yl 0 hF rfl rfl rfl (by kernel_rfl) (by kernel_rfl) (by kernel_rfl) (by decide) (fun _ _ _ h => h) (wn_none rfl) (.inr hSS) (yl_move hF rfl rfl) ?_
    clear hF; intro a hF
    refine ha_yl 1 hF rfl rfl rfl (by kernel_rfl) (by kernel_rfl) (by kernel_rfl) (by decide) (fun _ _ _ h => h) (wn_none rfl) (.inr hSS) (yl_nilCheck hF rfl rfl) ?_
    clear hF; intro a hF
    refine ha_yl 2 hF rfl rfl rfl (by kernel_rfl) (by kernel_rfl) (by kernel_rfl) (by decide) (fun _ _ _ h => h) (wn_none rfl) (.inr hSS) (yl_fieldAddr hF rfl rfl (fun w => by kernel_rfl : ∀ w, (Instr.fieldAt 25 (.pointer (some ⟨g, 0, none⟩)) 0).run Try.prog w = .ok (.pointer (some ⟨g, 0, none⟩)) w)) ?_
    clear hF; intro a hF
    refine ha_yl 4 hF rfl rfl rfl (by kernel_rfl) (by kernel_rfl) (by kernel_rfl) (by decide) (fun _ _ _ h => h) (wn_none rfl) (.inr hSS) (yl_move hF rfl rfl) ?_
    clear hF; intro a hF
    refine ha_yl 5 hF rfl rfl rfl (by kernel_rfl) (by kernel_rfl) (by kernel_rfl) (by decide) (fun _ _ _ h => h) (wn_none rfl) (.inr hSS) (yl_nilCheck hF rfl rfl) ?_
    clear hF; intro a hF
    refine ha_yl 6 hF rfl rfl rfl (by kernel_rfl) (by kernel_rfl) (by kernel_rfl) (by decide) (fun _ _ _ h => h) (wn_none rfl) (.inr hSS) (yl_fieldAddr hF rfl rfl (fun w => by kernel_rfl : ∀ w, (Instr.fieldAt 25 (.pointer (some ⟨g, 0, none⟩)) 1).run Try.prog w = .ok (.pointer (some ⟨g, 1, none⟩)) w)) ?_
    clear hF; intro a hF
    refine ha_yl 11 hF rfl rfl rfl (by kernel_rfl) (by kernel_rfl) (by kernel_rfl) (by decide) (fun _ _ _ h => h) (wn_none rfl) (.inr hSS) (yl_move hF rfl rfl) ?_
    clear hF; intro a hF
    refine ha_ld 3 hF rfl rfl rfl (by kernel_rfl) (by kernel_rfl) (by kernel_rfl) (by decide) (by kernel_rfl) (by kernel_rfl) (fun _ _ _ h => h) (wn_none rfl) hSS (yl_load (fun _ h => h) hF rfl rfl 0 rfl ag22 rfl) ?_
    clear hF; intro a hF
    refine ha_ld 7 hF rfl rfl rfl (by kernel_rfl) (by kernel_rfl) (by kernel_rfl) (by decide) (by kernel_rfl) (by kernel_rfl) (fun _ _ _ h => h) (wn_none rfl) hSS (yl_load (fun _ h => h) hF rfl rfl 0 rfl ag3 rfl) ?_
    clear hF; intro a hF
    refine ha_yl 8 hF rfl rfl rfl (by kernel_rfl) (by kernel_rfl) (by kernel_rfl) (by decide) (fun _ _ _ h => h) (wn_none rfl) (.inr hSS) (yl_bin hF rfl rfl rfl rfl (fun _ => run_sub (by refine ⟨?_, ?_⟩ <;> omega))) ?_
    clear hF; intro a hF
    replace hF := fr_seti (b' := ((i : Nat) : Int)) hF (by omega)
    have hlt_hx93 : i < (L).length := by first | omega | (simp; done) | (simp; omega)
    obtain ⟨ad94, rfl⟩ := rd_some (hS.rdRo 1 rfl) hlt_hx93
    obtain ⟨x93, hx93⟩ := get_some hlt_hx93
    refine ha_yl 9 hF rfl rfl rfl (by kernel_rfl) (by kernel_rfl) (by kernel_rfl) (by decide) (fun _ _ _ h => h) (wn_none rfl) (.inr hSS) (yl_indexAddr hF rfl rfl rfl (fun _ => run_idx' sl22 sz3 (hS.rdRo 1 rfl) hlt_hx93)) ?_
    clear hF; intro a hF
    refine ha_ld 10 hF rfl rfl rfl (by kernel_rfl) (by kernel_rfl) (by kernel_rfl) (by decide) (by kernel_rfl) (by kernel_rfl) (fun _ _ _ h => h) (wn_none rfl) hSS (yl_loadAt hF rfl rfl ag3 (fun _ h => rd_cell0 (enc := encI) (Sat.rdRo h 1 rfl) encI_len hx93 rfl rfl)) ?_
    clear hF; intro a hF
    have hr95 := rnd_bounds (x93) (m) (by omega)
    refine ha_one 12 (by kernel_rfl) rfl (wn_none rfl) (wp_call (vs := [_, _]) hF rfl rfl rfl rfl cf25 (cut_any (x93) (m) _ (by omega) (by omega)) ?_)
    clear hF; rintro _ w ⟨rfl, hS1⟩ a hF
    replace hS := hS.callB hS1 rfl; clear hS1
    replace hSS := hS.sub [0, 1] (by decide) rfl (by simp)
    refine ⟨.inr hSS, ?_⟩
    refine ha_yl 13 hF rfl rfl rfl (by kernel_rfl) (by kernel_rfl) (by kernel_rfl) (by decide) (fun _ _ _ h => h) (wn_none rfl) (.inr hSS) (yl_assign hF rfl rfl) ?_
    clear hF; intro a hF
    refine ha_done (by kernel_rfl) ?_ _
    refine then_n ?_
    refine wp_ret ?_
    refine ret_t hF rfl rfl ?_
    exact ⟨_, rfl, _, (i + 1), rfl, ⟨by omega, by omega⟩, by omega, (hS.subT 2 [0, 1] (by decide) (by first | rfl | simp) (by simp) (by simp))⟩

theorem odd_any (w0 w : World) (Ht : List Chunk) (g : Nat) (Av : Option Addr) (cv : Nat) (L : List Int) (i : Nat) (hS : Sat w0 w (.box g 25 #[.slice Av L.length cv, .int .i64 ((i : Nat) : Int)] :: .ro 1 (.slice Av L.length cv) L.length (cells encI L) :: Ht)) (hi : i ≤ L.length) (hL : L.length ≤ 9223372036854775807) :
    Fn Try.prog 10 #[.pointer (some ⟨g, 0, none⟩)] w (fun v w' => ∃ (r : Int) (i' : Nat), v = .int .i64 r ∧ (-9223372036854775808 ≤ r ∧ r ≤ 9223372036854775807) ∧ i' ≤ L.length ∧ Sat w0 w' (.box g 25 #[.slice Av L.length cv, .int .i64 ((i' : Nat) : Int)] :: .ro 1 (.slice Av L.length cv) L.length (cells encI L) :: Ht)) := by
  refine c_enterS (N := 8) (l := [_]) Try.func10 rfl rfl (fun a hF => ?_)
  refine c_seq ?_
  refine c_region ?_
  refine seq_yl hF (wn_none rfl) rfl rfl (yl_assign hF rfl rfl) ?_
  clear hF; intro a hF
  refine wpList_nil ?_
  refine then_n ?_
  refine c_seq ?_
  refine c_region ?_
  refine seq_wp (wn_none rfl) (wp_bslice (parts := [(0, .const (Go.Value.int Go.IntKind.i64 0)), (1, .const (Go.Value.int Go.IntKind.i64 1)), (2, .const (Go.Value.int Go.IntKind.i64 2)), (3, .const (Go.Value.int Go.IntKind.i64 3)), (4, .const (Go.Value.int Go.IntKind.i64 4)), (5, .const (Go.Value.int Go.IntKind.i64 7)), (6, .const (Go.Value.int Go.IntKind.i64 8)), (7, .const (Go.Value.int Go.IntKind.i64 15)), (8, .const (Go.Value.int Go.IntKind.i64 16)), (9, .const (Go.Value.int Go.IntKind.i64 63)), (10, .const (Go.Value.int Go.IntKind.i64 64)), (11, .const (Go.Value.int Go.IntKind.i64 128)), (12, .const (Go.Value.int Go.IntKind.i64 255)), (13, .const (Go.Value.int Go.IntKind.i64 256)), (14, .const (Go.Value.int Go.IntKind.i64 (-1))), (15, .const (Go.Value.int Go.IntKind.i64 1000000)), (16, .const (Go.Value.int Go.IntKind.i64 1000001)), (17, .const (Go.Value.int Go.IntKind.i64 4611686018427387904)), (18, .const (Go.Value.int Go.IntKind.i64 (-9223372036854775808)))]) (vs := [(0, _), (1, _), (2, _), (3, _), (4, _), (5, _), (6, _), (7, _), (8, _), (9, _), (10, _), (11, _), (12, _), (13, _), (14, _), (15, _), (16, _), (17, _), (18, _)]) (enc := encI) (e := 3) (size := 1) (cs := #[.int .i64 (0 : Int), .int .i64 (1 : Int), .int .i64 (2 : Int), .int .i64 (3 : Int), .int .i64 (4 : Int), .int .i64 (7 : Int), .int .i64 (8 : Int), .int .i64 (15 : Int), .int .i64 (16 : Int), .int .i64 (63 : Int), .int .i64 (64 : Int), .int .i64 (128 : Int), .int .i64 (255 : Int), .int .i64 (256 : Int), .int .i64 (-1 : Int), .int .i64 (1000000 : Int), .int .i64 (1000001 : Int), .int .i64 (4611686018427387904 : Int), .int .i64 (-9223372036854775808 : Int)]) hF hS rfl rfl rfl rfl ([(0 : Int), (1 : Int), (2 : Int), (3 : Int), (4 : Int), (7 : Int), (8 : Int), (15 : Int), (16 : Int), (63 : Int), (64 : Int), (128 : Int), (255 : Int), (256 : Int), (-1 : Int), (1000000 : Int), (1000001 : Int), (4611686018427387904 : Int), (-9223372036854775808 : Int)] : List Int) (fun w => by kernel_rfl) rfl rfl rfl (by decide) ?_)
  clear hF hS; intro a w v96 hF hS
  obtain ⟨Av96, cv96, rfl⟩ := hS.form 0 rfl
  have hodd : ∀ e ∈ ([(0 : Int), (1 : Int), (2 : Int), (3 : Int), (4 : Int), (7 : Int), (8 : Int), (15 : Int), (16 : Int), (63 : Int), (64 : Int), (128 : Int), (255 : Int), (256 : Int), (-1 : Int), (1000000 : Int), (1000001 : Int), (4611686018427387904 : Int), (-9223372036854775808 : Int)] : List Int), (-9223372036854775808 : Int) ≤ e ∧ e ≤ 9223372036854775807 := by decide
  refine seq_yl hF (wn_none rfl) rfl rfl (yl_move hF rfl rfl) ?_
  clear hF; intro a hF
  replace hS := (hS.subT 3 [1, 2, 0] (by decide) (by first | rfl | simp) (by simp) (by simp))
  refine seq_wp (wn_none rfl) (wp_call (vs := [_, _]) hF rfl rfl rfl rfl cf9 (next_any _ _ _ _ _ _ _ (i : Nat) (19 : Int) (by omega) hS (by omega) (by omega)) ?_)
  clear hF; rintro _ w ⟨r97, it98, rfl, hb99, hiit98, hS1⟩ a hF; replace hS := hS1; clear hS1
  obtain ⟨rn100, rfl⟩ : ∃ n : Nat, r97 = n := ⟨r97.toNat, by omega⟩
  have hlt_hx101 : rn100 < (([(0 : Int), (1 : Int), (2 : Int), (3 : Int), (4 : Int), (7 : Int), (8 : Int), (15 : Int), (16 : Int), (63 : Int), (64 : Int), (128 : Int), (255 : Int), (256 : Int), (-1 : Int), (1000000 : Int), (1000001 : Int), (4611686018427387904 : Int), (-9223372036854775808 : Int)] : List Int)).length := by first | omega | (simp; done) | (simp; omega)
  obtain ⟨ad102, rfl⟩ := rd_some (hS.rdRow 2 rfl) hlt_hx101
  obtain ⟨x101, hx101⟩ := get_some hlt_hx101
  have hb_x101 := hodd x101 (List.mem_of_getElem? hx101)
  refine seq_yl hF (wn_none rfl) rfl rfl (yl_indexAddr hF rfl rfl rfl (fun _ => run_idx' sl22 sz3 (hS.rdRow 2 rfl) hlt_hx101)) ?_
  clear hF; intro a hF
  refine seq_yl hF (wn_none rfl) rfl rfl (yl_loadAt hF rfl rfl ag3 (fun _ h => rd_cell0 (enc := encI) (by subst h; exact hS.rdRow 2 rfl) encI_len hx101 rfl rfl)) ?_
  clear hF; intro a hF
  refine seq_yl hF (wn_none rfl) rfl rfl (yl_assign hF rfl rfl) ?_
  clear hF; intro a hF
  refine wpList_nil ?_
  refine then_n ?_
  refine wp_ret ?_
  refine ret_t hF rfl rfl ?_
  exact ⟨_, rfl, _, it98, rfl, ⟨by omega, by omega⟩, by omega, (hS.subT 3 [0, 1] (by decide) (by first | rfl | simp) (by simp) (by simp))⟩

end Go.Proofs.Ytiifpgkdgnoafaa

/- walks, printed by wip/gen -/
import Derived.Test.YtffaminjbcfojaaW1
namespace Go.Proofs.Ytffaminjbcfojaa
open Go.RowKit
set_option linter.unusedVariables false
set_option linter.unusedSimpArgs false

set_option maxRecDepth 100000 in
theorem cut_any (n m : Int) (w0 : World) (h1 : 1 ≤ m) (hm : m ≤ 9223372036854775807) :
    Fn Try.prog 24 #[.int .i64 n, .int .i64 m] w0 (fun v w' => v = .int .i64 (rnd n m) ∧ Sat w0 w' []) := by
  refine c_enter (N := 11) (l := [_, _]) Try.func24 rfl rfl (fun a w hF hS => ?_)
  refine c_seq ?_
  refine c_region ?_
  refine seq_yl hF (wn_none rfl) rfl rfl (yl_assign hF rfl rfl) ?_
  clear hF; intro a hF
  refine wpList_nil ?_
  refine then_n ?_
  refine c_seq ?_
  refine c_region ?_
  refine seq_yl hF (wn_none rfl) rfl rfl (yl_move hF rfl rfl) ?_
  clear hF; intro a hF
  refine seq_yl hF (wn_none rfl) rfl rfl (yl_conv hF rfl rfl (fun _ => run_cnv Try.underlying3 Try.underlying55)) ?_
  clear hF; intro a hF
  refine seq_yl hF (wn_none rfl) rfl rfl (yl_move hF rfl rfl) ?_
  clear hF; intro a hF
  refine seq_yl hF (wn_none rfl) rfl rfl (yl_conv hF rfl rfl (fun _ => run_cnv Try.underlying3 Try.underlying55)) ?_
  clear hF; intro a hF
  refine seq_yl hF (wn_none rfl) rfl rfl (yl_bin hF rfl rfl rfl rfl (fun _ => run_rem (by rw [wrap_u64]; omega))) ?_
  clear hF; intro a hF
  refine seq_yl hF (wn_none rfl) rfl rfl (yl_conv hF rfl rfl (fun _ => run_cnv Try.underlying55 Try.underlying3)) ?_
  clear hF; intro a hF
  refine seq_yl hF (wn_none rfl) rfl rfl (yl_assign hF rfl rfl) ?_
  clear hF; intro a hF
  refine wpList_nil ?_
  refine then_n ?_
  refine wp_ret ?_
  refine ret_t hF rfl rfl ?_
  exact ⟨_, rfl, congrArg (Value.int .i64) (round_eq (by omega) hm), (hS.sub [] (by decide) (by first | rfl | simp) (by simp))⟩

set_option maxRecDepth 100000 in
theorem next_any (w0 w : World) (Ht : List Chunk) (g : Nat) (Av : Option Addr) (cv : Nat) (L : List Int) (i : Nat) (m : Int) (hm : 1 ≤ m ∧ m ≤ 9223372036854775807) (hS : Sat w0 w (.box g 25 #[.slice Av L.length cv, .int .i64 ((i : Nat) : Int)] :: .ro 1 (.slice Av L.length cv) L.length (cells encI L) :: Ht)) (hi : i ≤ L.length) (hL : L.length ≤ 9223372036854775807) :
    Fn Try.prog 7 #[.pointer (some ⟨g, 0, none⟩), .int .i64 m] w (fun v w' => ∃ (r : Int) (i' : Nat), v = .int .i64 r ∧ (0 ≤ r ∧ r < m) ∧ i' ≤ L.length ∧ Sat w0 w' (.box g 25 #[.slice Av L.length cv, .int .i64 ((i' : Nat) : Int)] :: .ro 1 (.slice Av L.length cv) L.length (cells encI L) :: Ht)) := by
  refine c_enterS (N := 35) (l := [_, _]) Try.func7 rfl rfl (fun a hF => ?_)
  refine c_seq ?_
  refine c_region ?_
  refine seq_yl hF (wn_none rfl) rfl rfl (yl_assign hF rfl rfl) ?_
  clear hF; intro a hF
  refine wpList_nil ?_
  refine then_n ?_
  refine c_seq ?_
  refine c_seq ?_
  refine ha_startS hS [0] 10 (by kernel_rfl) ?_; clear hS; intro w hS
  have hSS := hS.sub [0] (by decide) rfl (by simp)
  refine ha_y 0 hF rfl rfl rfl (wn_none rfl) (.inr hSS) (yl_move hF rfl rfl) ?_
  clear hF; intro a hF
  refine ha_y 1 hF rfl rfl rfl (wn_none rfl) (.inr hSS) (yl_nilCheck hF rfl rfl) ?_
  clear hF; intro a hF
  refine ha_y 2 hF rfl rfl rfl (wn_none rfl) (.inr hSS) (yl_fieldAddr hF rfl rfl (fun w => by kernel_rfl : ∀ w, (Instr.fieldAt 25 (.pointer (some ⟨g, 0, none⟩)) 1).run Try.prog w = .ok (.pointer (some ⟨g, 1, none⟩)) w)) ?_
  clear hF; intro a hF
  refine ha_y 4 hF rfl rfl rfl (wn_none rfl) (.inr hSS) (yl_move hF rfl rfl) ?_
  clear hF; intro a hF
  refine ha_y 5 hF rfl rfl rfl (wn_none rfl) (.inr hSS) (yl_nilCheck hF rfl rfl) ?_
  clear hF; intro a hF
  refine ha_y 6 hF rfl rfl rfl (wn_none rfl) (.inr hSS) (yl_fieldAddr hF rfl rfl (fun w => by kernel_rfl : ∀ w, (Instr.fieldAt 25 (.pointer (some ⟨g, 0, none⟩)) 0).run Try.prog w = .ok (.pointer (some ⟨g, 0, none⟩)) w)) ?_
  clear hF; intro a hF
  refine ha_l 3 hF rfl rfl rfl (wn_none rfl) hSS (yl_load (fun _ h => h) hF rfl rfl 0 rfl ag3 rfl) ?_
  clear hF; intro a hF
  refine ha_l 7 hF rfl rfl rfl (wn_none rfl) hSS (yl_load (fun _ h => h) hF rfl rfl 0 rfl ag22 rfl) ?_
  clear hF; intro a hF
  refine ha_y 8 hF rfl rfl rfl (wn_none rfl) (.inr hSS) (yl_len hF rfl rfl (fun _ => run_lenRd sl22 (hS.rdRo 1 rfl))) ?_
  clear hF; intro a hF
  refine ha_y 9 hF rfl rfl rfl (wn_none rfl) (.inr hSS) (yl_bin hF rfl rfl rfl rfl (fun _ => run_geq)) ?_
  clear hF; intro a hF
  refine ha_done (by kernel_rfl) ?_ _
  refine then_n ?_
  refine c_cond hF rfl (fun hc177 => ?_) (fun hc177 => ?_)
  · first | (replace hc177 := of_decide_eq_true hc177) | (replace hc177 := of_decide_eq_false (bnot_t hc177)) | (subst hc177) | (replace hc177 := bnot_t hc177; subst hc177) | (replace hc177 := bnot_t hc177) | skip
    refine c_seq ?_
    refine c_region ?_
    refine seq_yl hF (wn_none rfl) rfl rfl (yl_assign hF rfl rfl) ?_
    clear hF; intro a hF
    refine wpList_nil ?_
    refine then_n ?_
    refine wp_ret ?_
    refine then_r ?_
    refine ret_t hF rfl rfl ?_
    exact ⟨_, rfl, _, i, rfl, ⟨by omega, by omega⟩, by omega, (hS.subT 2 [0, 1] (by decide) (by first | rfl | simp) (by simp) (by simp))⟩
  · first | (replace hc177 := of_decide_eq_false hc177) | (replace hc177 := of_decide_eq_true (bnot_f hc177)) | (subst hc177) | (replace hc177 := bnot_f hc177; subst hc177) | (replace hc177 := bnot_f hc177) | skip
    refine wp_skip ?_
    refine then_n ?_
    refine c_seq ?_
    refine c_region ?_
    refine seq_yl hF (wn_none rfl) rfl rfl (yl_move hF rfl rfl) ?_
    clear hF; intro a hF
    refine seq_yl hF (wn_none rfl) rfl rfl (yl_nilCheck hF rfl rfl) ?_
    clear hF; intro a hF
    refine seq_yl hF (wn_none rfl) rfl rfl (yl_fieldAddr hF rfl rfl (fun w => by kernel_rfl : ∀ w, (Instr.fieldAt 25 (.pointer (some ⟨g, 0, none⟩)) 1).run Try.prog w = .ok (.pointer (some ⟨g, 1, none⟩)) w)) ?_
    clear hF; intro a hF
    refine seq_yl hF (wn_none rfl) rfl rfl (yl_load (fun _ h => h ▸ hS) hF rfl rfl 0 rfl ag3 rfl) ?_
    clear hF; intro a hF
    refine seq_yl hF (wn_none rfl) rfl rfl (yl_bin hF rfl rfl rfl rfl (fun _ => run_inc (by omega))) ?_
    clear hF; intro a hF
    refine seq_yl hF (wn_none rfl) rfl rfl (yl_nilCheck hF rfl rfl) ?_
    clear hF; intro a hF
    refine seq_yl hF (wn_none rfl) rfl rfl (yl_fieldAddr hF rfl rfl (fun w => by kernel_rfl : ∀ w, (Instr.fieldAt 25 (.pointer (some ⟨g, 0, none⟩)) 1).run Try.prog w = .ok (.pointer (some ⟨g, 1, none⟩)) w)) ?_
    clear hF; intro a hF
    refine seq_wp (wn_none rfl) (wp_store (cs' := #[_, _]) hF hS rfl rfl rfl rfl 0 rfl sz3 (by simp [Value.cells, Value.oneCell']) (by simp [Value.cells]) rfl ?_)
    clear hF hS; intro a w hF hS
    refine wpList_nil ?_
    refine then_n ?_
    refine c_seq ?_
    refine ha_startS hS [0, 1] 14 (by kernel_rfl) ?_; clear hS; intro w hS
    have hSS := hS.sub [0, 1] (by decide) rfl (by simp)
    refine ha_y 0 hF rfl rfl rfl (wn_none rfl) (.inr hSS) (yl_move hF rfl rfl) ?_
    clear hF; intro a hF
    refine ha_y 1 hF rfl rfl rfl (wn_none rfl) (.inr hSS) (yl_nilCheck hF rfl rfl) ?_
    clear hF; intro a hF
    refine ha_y 2 hF rfl rfl rfl (wn_none rfl) (.inr hSS) (yl_fieldAddr hF rfl rfl (fun w => by kernel_rfl : ∀ w, (Instr.fieldAt 25 (.pointer (some ⟨g, 0, none⟩)) 0).run Try.prog w = .ok (.pointer (some ⟨g, 0, none⟩)) w)) ?_
    clear hF; intro a hF
    refine ha_y 4 hF rfl rfl rfl (wn_none rfl) (.inr hSS) (yl_move hF rfl rfl) ?_
    clear hF; intro a hF
    refine ha_y 5 hF rfl rfl rfl (wn_none rfl) (.inr hSS) (yl_nilCheck hF rfl rfl) ?_
    clear hF; intro a hF
    refine ha_y 6 hF rfl rfl rfl (wn_none rfl) (.inr hSS) (yl_fieldAddr hF rfl rfl (fun w => by kernel_rfl : ∀ w, (Instr.fieldAt 25 (.pointer (some ⟨g, 0, none⟩)) 1).run Try.prog w = .ok (.pointer (some ⟨g, 1, none⟩)) w)) ?_
    clear hF; intro a hF
    refine ha_y 11 hF rfl rfl rfl (wn_none rfl) (.inr hSS) (yl_move hF rfl rfl) ?_
    clear hF; intro a hF
    refine ha_l 3 hF rfl rfl rfl (wn_none rfl) hSS (yl_load (fun _ h => h) hF rfl rfl 0 rfl ag22 rfl) ?_
    clear hF; intro a hF
    refine ha_l 7 hF rfl rfl rfl (wn_none rfl) hSS (yl_load (fun _ h => h) hF rfl rfl 0 rfl ag3 rfl) ?_
    clear hF; intro a hF
    refine ha_y 8 hF rfl rfl rfl (wn_none rfl) (.inr hSS) (yl_bin hF rfl rfl rfl rfl (fun _ => run_sub (by refine ⟨?_, ?_⟩ <;> omega))) ?_
    clear hF; intro a hF
    replace hF := fr_seti (b' := ((i : Nat) : Int)) hF (by omega)
    have hlt_hx178 : i < (L).length := by first | omega | (simp; done) | (simp; omega)
    obtain ⟨ad179, rfl⟩ := rd_some (hS.rdRo 1 rfl) hlt_hx178
    obtain ⟨x178, hx178⟩ := get_some hlt_hx178
    refine ha_y 9 hF rfl rfl rfl (wn_none rfl) (.inr hSS) (yl_indexAddr hF rfl rfl rfl (fun _ => run_idx' sl22 sz3 (hS.rdRo 1 rfl) hlt_hx178)) ?_
    clear hF; intro a hF
    refine ha_l 10 hF rfl rfl rfl (wn_none rfl) hSS (yl_loadAt hF rfl rfl ag3 (fun _ h => rd_cell0 (enc := encI) (Sat.rdRo h 1 rfl) encI_len hx178 rfl rfl)) ?_
    clear hF; intro a hF
    have hr180 := rnd_bounds (x178) (m) (by omega)
    refine ha_one 12 (by kernel_rfl) rfl (wn_none rfl) (wp_call (vs := [_, _]) hF rfl rfl rfl rfl cf24 (cut_any (x178) (m) _ (by omega) (by omega)) ?_)
    clear hF; rintro _ w ⟨rfl, hS1⟩ a hF
    replace hS := hS.callB hS1 rfl; clear hS1
    replace hSS := hS.sub [0, 1] (by decide) rfl (by simp)
    refine ⟨.inr hSS, ?_⟩
    refine ha_y 13 hF rfl rfl rfl (wn_none rfl) (.inr hSS) (yl_assign hF rfl rfl) ?_
    clear hF; intro a hF
    refine ha_done (by kernel_rfl) ?_ _
    refine then_n ?_
    refine wp_ret ?_
    refine ret_t hF rfl rfl ?_
    exact ⟨_, rfl, _, (i + 1), rfl, ⟨by omega, by omega⟩, by omega, (hS.subT 2 [0, 1] (by decide) (by first | rfl | simp) (by simp) (by simp))⟩

set_option maxRecDepth 100000 in
theorem odd_any (w0 w : World) (Ht : List Chunk) (g : Nat) (Av : Option Addr) (cv : Nat) (L : List Int) (i : Nat) (hS : Sat w0 w (.box g 25 #[.slice Av L.length cv, .int .i64 ((i : Nat) : Int)] :: .ro 1 (.slice Av L.length cv) L.length (cells encI L) :: Ht)) (hi : i ≤ L.length) (hL : L.length ≤ 9223372036854775807) :
    Fn Try.prog 8 #[.pointer (some ⟨g, 0, none⟩)] w (fun v w' => ∃ (r : Int) (i' : Nat), v = .int .i64 r ∧ (-9223372036854775808 ≤ r ∧ r ≤ 9223372036854775807) ∧ i' ≤ L.length ∧ Sat w0 w' (.box g 25 #[.slice Av L.length cv, .int .i64 ((i' : Nat) : Int)] :: .ro 1 (.slice Av L.length cv) L.length (cells encI L) :: Ht)) := by
  refine c_enterS (N := 8) (l := [_]) Try.func8 rfl rfl (fun a hF => ?_)
  refine c_seq ?_
  refine c_region ?_
  refine seq_yl hF (wn_none rfl) rfl rfl (yl_assign hF rfl rfl) ?_
  clear hF; intro a hF
  refine wpList_nil ?_
  refine then_n ?_
  refine c_seq ?_
  refine c_region ?_
  refine seq_wp (wn_none rfl) (wp_bslice (parts := [(0, .const (Go.Value.int Go.IntKind.i64 0)), (1, .const (Go.Value.int Go.IntKind.i64 1)), (2, .const (Go.Value.int Go.IntKind.i64 2)), (3, .const (Go.Value.int Go.IntKind.i64 3)), (4, .const (Go.Value.int Go.IntKind.i64 4)), (5, .const (Go.Value.int Go.IntKind.i64 7)), (6, .const (Go.Value.int Go.IntKind.i64 8)), (7, .const (Go.Value.int Go.IntKind.i64 15)), (8, .const (Go.Value.int Go.IntKind.i64 16)), (9, .const (Go.Value.int Go.IntKind.i64 63)), (10, .const (Go.Value.int Go.IntKind.i64 64)), (11, .const (Go.Value.int Go.IntKind.i64 128)), (12, .const (Go.Value.int Go.IntKind.i64 255)), (13, .const (Go.Value.int Go.IntKind.i64 256)), (14, .const (Go.Value.int Go.IntKind.i64 (-1))), (15, .const (Go.Value.int Go.IntKind.i64 1000000)), (16, .const (Go.Value.int Go.IntKind.i64 1000001)), (17, .const (Go.Value.int Go.IntKind.i64 4611686018427387904)), (18, .const (Go.Value.int Go.IntKind.i64 (-9223372036854775808)))]) (vs := [(0, _), (1, _), (2, _), (3, _), (4, _), (5, _), (6, _), (7, _), (8, _), (9, _), (10, _), (11, _), (12, _), (13, _), (14, _), (15, _), (16, _), (17, _), (18, _)]) (enc := encI) (e := 3) (size := 1) (cs := #[.int .i64 (0 : Int), .int .i64 (1 : Int), .int .i64 (2 : Int), .int .i64 (3 : Int), .int .i64 (4 : Int), .int .i64 (7 : Int), .int .i64 (8 : Int), .int .i64 (15 : Int), .int .i64 (16 : Int), .int .i64 (63 : Int), .int .i64 (64 : Int), .int .i64 (128 : Int), .int .i64 (255 : Int), .int .i64 (256 : Int), .int .i64 (-1 : Int), .int .i64 (1000000 : Int), .int .i64 (1000001 : Int), .int .i64 (4611686018427387904 : Int), .int .i64 (-9223372036854775808 : Int)]) hF hS rfl rfl rfl rfl ([(0 : Int), (1 : Int), (2 : Int), (3 : Int), (4 : Int), (7 : Int), (8 : Int), (15 : Int), (16 : Int), (63 : Int), (64 : Int), (128 : Int), (255 : Int), (256 : Int), (-1 : Int), (1000000 : Int), (1000001 : Int), (4611686018427387904 : Int), (-9223372036854775808 : Int)] : List Int) (fun w => by kernel_rfl) rfl rfl rfl (by decide) ?_)
  clear hF hS; intro a w v181 hF hS
  obtain ⟨Av181, cv181, rfl⟩ := hS.form 0 rfl
  have hodd : ∀ e ∈ ([(0 : Int), (1 : Int), (2 : Int), (3 : Int), (4 : Int), (7 : Int), (8 : Int), (15 : Int), (16 : Int), (63 : Int), (64 : Int), (128 : Int), (255 : Int), (256 : Int), (-1 : Int), (1000000 : Int), (1000001 : Int), (4611686018427387904 : Int), (-9223372036854775808 : Int)] : List Int), (-9223372036854775808 : Int) ≤ e ∧ e ≤ 9223372036854775807 := by decide
  refine seq_yl hF (wn_none rfl) rfl rfl (yl_move hF rfl rfl) ?_
  clear hF; intro a hF
  replace hS := (hS.subT 3 [1, 2, 0] (by decide) (by first | rfl | simp) (by simp) (by simp))
  refine seq_wp (wn_none rfl) (wp_call (vs := [_, _]) hF rfl rfl rfl rfl cf7 (next_any _ _ _ _ _ _ _ (i : Nat) (19 : Int) (by omega) hS (by omega) (by omega)) ?_)
  clear hF; rintro _ w ⟨r182, it183, rfl, hb184, hiit183, hS1⟩ a hF; replace hS := hS1; clear hS1
  obtain ⟨rn185, rfl⟩ : ∃ n : Nat, r182 = n := ⟨r182.toNat, by omega⟩
  have hlt_hx186 : rn185 < (([(0 : Int), (1 : Int), (2 : Int), (3 : Int), (4 : Int), (7 : Int), (8 : Int), (15 : Int), (16 : Int), (63 : Int), (64 : Int), (128 : Int), (255 : Int), (256 : Int), (-1 : Int), (1000000 : Int), (1000001 : Int), (4611686018427387904 : Int), (-9223372036854775808 : Int)] : List Int)).length := by first | omega | (simp; done) | (simp; omega)
  obtain ⟨ad187, rfl⟩ := rd_some (hS.rdRow 2 rfl) hlt_hx186
  obtain ⟨x186, hx186⟩ := get_some hlt_hx186
  have hb_x186 := hodd x186 (List.mem_of_getElem? hx186)
  refine seq_yl hF (wn_none rfl) rfl rfl (yl_indexAddr hF rfl rfl rfl (fun _ => run_idx' sl22 sz3 (hS.rdRow 2 rfl) hlt_hx186)) ?_
  clear hF; intro a hF
  refine seq_yl hF (wn_none rfl) rfl rfl (yl_loadAt hF rfl rfl ag3 (fun _ h => rd_cell0 (enc := encI) (by subst h; exact hS.rdRow 2 rfl) encI_len hx186 rfl rfl)) ?_
  clear hF; intro a hF
  refine seq_yl hF (wn_none rfl) rfl rfl (yl_assign hF rfl rfl) ?_
  clear hF; intro a hF
  refine wpList_nil ?_
  refine then_n ?_
  refine wp_ret ?_
  refine ret_t hF rfl rfl ?_
  exact ⟨_, rfl, _, it183, rfl, ⟨by omega, by omega⟩, by omega, (hS.subT 3 [0, 1] (by decide) (by first | rfl | simp) (by simp) (by simp))⟩

set_option maxRecDepth 100000 in
theorem drawn_any (w0 w : World) (Ht : List Chunk) (g : Nat) (Av : Option Addr) (cv : Nat) (L : List Int) (i : Nat) (hS : Sat w0 w (.box g 25 #[.slice Av L.length cv, .int .i64 ((i : Nat) : Int)] :: .ro 1 (.slice Av L.length cv) L.length (cells encI L) :: Ht)) (hi : i ≤ L.length) (hL : L.length ≤ 9223372036854775807) :
    Fn Try.prog 6 #[.pointer (some ⟨g, 0, none⟩)] w (fun v w' => ∃ (v1 : Value) (G : List E44) (i' : Nat), v = v1 ∧ G.length ≤ 5 ∧ i' ≤ L.length ∧ Sat w0 w' (.row 44 2 v1 (G).length (cells enc44 (G)) :: .box g 25 #[.slice Av L.length cv, .int .i64 ((i' : Nat) : Int)] :: .ro 1 (.slice Av L.length cv) L.length (cells encI L) :: Ht)) := by
  refine c_enterS (N := 43) (l := [_]) Try.func6 rfl rfl (fun a hF => ?_)
  refine c_seq ?_
  refine c_region ?_
  refine seq_yl hF (wn_none rfl) rfl rfl (yl_assign hF rfl rfl) ?_
  clear hF; intro a hF
  refine wpList_nil ?_
  refine then_n ?_
  refine c_seq ?_
  refine c_region ?_
  refine seq_yl hF (wn_none rfl) rfl rfl (yl_assign hF rfl rfl) ?_
  clear hF; intro a hF
  refine wpList_nil ?_
  refine then_n ?_
  refine c_seq ?_
  refine c_region ?_
  refine seq_yl hF (wn_none rfl) rfl rfl (yl_assign hF rfl rfl) ?_
  clear hF; intro a hF
  refine wpList_nil ?_
  refine then_n ?_
  refine c_seq ?_
  refine c_seq ?_
  refine c_region ?_
  refine seq_yl hF (wn_none rfl) rfl rfl (yl_move hF rfl rfl) ?_
  clear hF; intro a hF
  refine seq_wp (wn_none rfl) (wp_call (vs := [_, _]) hF rfl rfl rfl rfl cf7 (next_any _ _ _ _ _ _ _ (i : Nat) (6 : Int) (by omega) hS (by omega) (by omega)) ?_)
  clear hF; rintro _ w ⟨r188, it189, rfl, hb190, hiit189, hS1⟩ a hF; replace hS := hS1; clear hS1
  refine seq_yl hF (wn_none rfl) rfl rfl (yl_assign hF rfl rfl) ?_
  clear hF; intro a hF
  refine wpList_nil ?_
  refine then_n ?_
  refine wp_block ?_
  replace hS := hS.addNil 44 2
  refine c_loop (fun m a w => ∃ (nn at9 : Int) (it : Nat) (E : List E44) (AvE : Option Addr) (cvE : Nat), m = nn.toNat ∧ (0 ≤ nn ∧ nn + E.length = (r188) ∧ it ≤ L.length ∧ (0 ≤ at9 ∧ at9 ≤ 4 * (E.length : Int))) ∧ Fr 43 a [(0, .pointer (some ⟨g, 0, none⟩)), (3, .slice AvE (E).length cvE), (4, .int .i64 (at9)), (5, .int .i64 (nn))] ∧ Sat w0 w (.box g 25 #[.slice Av L.length cv, .int .i64 ((it : Nat) : Int)] :: .ro 1 (.slice Av L.length cv) (L).length (cells encI (L)) :: .row 44 2 (.slice AvE (E).length cvE) (E).length (cells enc44 (E)) :: Ht)) (((r188)).toNat) ?_ ?_
  · exact ⟨(r188), 0, it189, [], none, 0, rfl, ⟨by omega, by simp, by omega, by simp⟩, hF.to [0, 3, 4, 5] rfl, (hS.subT 3 [1, 2, 0] (by decide) (by first | rfl | simp) (by simp) (by simp))⟩
  · clear hF hS; try clear hSS
    clear a w; rintro m a w ⟨nn, at9, it, E, AvE, cvE, rfl, hinv, hF, hS⟩
    obtain ⟨hn0, hnE, hit, hat⟩ := hinv
    refine c_seq ?_
    refine c_seq ?_
    refine c_region ?_
    refine seq_yl hF (wn_none rfl) rfl rfl (yl_move hF rfl rfl) ?_
    clear hF; intro a hF
    refine seq_yl hF (wn_none rfl) rfl rfl (yl_bin hF rfl rfl rfl rfl (fun _ => run_gtr)) ?_
    clear hF; intro a hF
    refine wpList_nil ?_
    refine then_n ?_
    refine c_cond hF rfl (fun hc191 => ?_) (fun hc191 => ?_)
    · first | (replace hc191 := of_decide_eq_true hc191) | (replace hc191 := of_decide_eq_false (bnot_t hc191)) | (subst hc191) | (replace hc191 := bnot_t hc191; subst hc191) | (replace hc191 := bnot_t hc191) | skip
      refine wp_skip ?_
      refine then_n ?_
      refine c_seq ?_
      refine wp_block ?_
      refine c_seq ?_
      refine c_region ?_
      refine seq_yl hF (wn_none rfl) rfl rfl (yl_move hF rfl rfl) ?_
      clear hF; intro a hF
      refine seq_yl hF (wn_none rfl) rfl rfl (yl_move hF rfl rfl) ?_
      clear hF; intro a hF
      refine seq_wp (wn_none rfl) (wp_call (vs := [_, _]) hF rfl rfl rfl rfl cf7 (next_any _ _ _ _ _ _ _ (it : Nat) (4 : Int) (by omega) hS (by omega) (by omega)) ?_)
      clear hF; rintro _ w ⟨r192, it193, rfl, hb194, hiit193, hS1⟩ a hF; replace hS := hS1; clear hS1
      refine seq_yl hF (wn_none rfl) rfl rfl (yl_bin hF rfl rfl rfl rfl (fun _ => run_add (by refine ⟨?_, ?_⟩ <;> omega))) ?_
      clear hF; intro a hF
      refine seq_yl hF (wn_none rfl) rfl rfl (yl_assign hF rfl rfl) ?_
      clear hF; intro a hF
      refine wpList_nil ?_
      refine then_n ?_
      refine c_region ?_
      refine seq_yl hF (wn_none rfl) rfl rfl (yl_move hF rfl rfl) ?_
      clear hF; intro a hF
      refine seq_yl hF (wn_none rfl) rfl rfl (yl_move hF rfl rfl) ?_
      clear hF; intro a hF
      refine seq_wp (wn_none rfl) (wp_call (vs := [_, _]) hF rfl rfl rfl rfl cf7 (next_any _ _ _ _ _ _ _ (it193 : Nat) (8 : Int) (by omega) hS (by omega) (by omega)) ?_)
      clear hF; rintro _ w ⟨r195, it196, rfl, hb197, hiit196, hS1⟩ a hF; replace hS := hS1; clear hS1
      refine seq_yl hF (wn_none rfl) rfl rfl (yl_move hF rfl rfl) ?_
      clear hF; intro a hF
      refine seq_yl hF (wn_none rfl) rfl rfl (yl_build (parts := [(0, .tmp 18), (1, .tmp 19)]) (vs := [(0, _), (1, _)]) (cs := [_, _]) hF bd44 rfl rfl rfl rfl) ?_
      clear hF; intro a hF
      refine seq_wp (wn_none rfl) (wp_bslice (parts := [(0, .tmp 20)]) (vs := [(0, _)]) (enc := enc44) (e := 44) (size := 2) (cs := #[.int .i64 (r195), .int .i64 (((at9) + (r192)))]) hF hS rfl rfl rfl rfl ([(E44.mk (r195) (((at9) + (r192))))] : List E44) (fun w => by kernel_rfl) rfl rfl rfl (by decide) ?_)
      clear hF hS; intro a w v198 hF hS
      obtain ⟨Av198, cv198, rfl⟩ := hS.form 0 rfl
      refine seq_wp (wn_none rfl) (wp_app (enc := enc44) hF hS rfl rfl rfl rfl rfl 3 rfl sl26 inf44 rfl (by decide) (hS.rdRow 0 rfl) enc44_one (by decide) (by first | omega | (simp only [List.length_append, List.length_cons, List.length_nil]; omega) | (simp; omega)) ?_)
      clear hF hS; intro a w v199 hF hS
      obtain ⟨Av199, cv199, rfl⟩ := hS.form 3 rfl
      refine seq_yl hF (wn_none rfl) rfl rfl (yl_assign hF rfl rfl) ?_
      clear hF; intro a hF
      refine wpList_nil ?_
      refine inb_n ?_
      refine then_n ?_
      refine c_region ?_
      refine seq_yl hF (wn_none rfl) rfl rfl (yl_move hF rfl rfl) ?_
      clear hF; intro a hF
      refine seq_yl hF (wn_none rfl) rfl rfl (yl_bin hF rfl rfl rfl rfl (fun _ => run_sub (by refine ⟨?_, ?_⟩ <;> omega))) ?_
      clear hF; intro a hF
      refine seq_yl hF (wn_none rfl) rfl rfl (yl_assign hF rfl rfl) ?_
      clear hF; intro a hF
      refine wpList_nil ?_
      refine then_n ?_
      exact ⟨_, (by omega), (((nn) - (1 : Int))), (((at9) + (r192))), it196, (E ++ ([(E44.mk (r195) (((at9) + (r192))))] : List E44)), Av199, cv199, rfl, ⟨by omega, by rw [List.length_append, List.length_singleton]; omega, by omega, by rw [List.length_append, List.length_singleton]; omega⟩, hF.to [0, 3, 4, 5] rfl, (hS.subT 4 [1, 2, 3] (by decide) (by first | rfl | simp) (by simp) (by simp))⟩
    · first | (replace hc191 := of_decide_eq_false hc191) | (replace hc191 := of_decide_eq_true (bnot_f hc191)) | (subst hc191) | (replace hc191 := bnot_f hc191; subst hc191) | (replace hc191 := bnot_f hc191) | skip
      refine wp_exit ?_
      refine then_x ?_
      refine then_x ?_
      refine inb_x ?_
      refine then_n ?_
      refine c_seq ?_
      refine c_seq ?_
      refine c_region ?_
      refine seq_yl hF (wn_none rfl) rfl rfl (yl_move hF rfl rfl) ?_
      clear hF; intro a hF
      refine seq_yl hF (wn_none rfl) rfl rfl (yl_len hF rfl rfl (fun _ => run_lenRd sl26 (hS.rdRow 2 rfl))) ?_
      clear hF; intro a hF
      refine seq_yl hF (wn_none rfl) rfl rfl (yl_bin hF rfl rfl rfl rfl (fun _ => run_gtr)) ?_
      clear hF; intro a hF
      refine seq_yl hF (wn_none rfl) rfl rfl (yl_move hF rfl rfl) ?_
      clear hF; intro a hF
      refine fr_split hF (fun hc200 hF => ?_) (fun hc200 hF => ?_)
      · first | (replace hc200 := of_decide_eq_true hc200) | (replace hc200 := of_decide_eq_false (bnot_t hc200)) | (subst hc200) | (replace hc200 := bnot_t hc200; subst hc200) | (replace hc200 := bnot_t hc200) | skip
        refine seq_yl hF (wn_t hF rfl rfl rfl rfl) rfl rfl (yl_move hF rfl rfl) ?_
        clear hF; intro a hF
        refine seq_wp (wn_t hF rfl rfl rfl rfl) (wp_call (vs := [_, _]) hF rfl rfl rfl rfl cf7 (next_any _ _ _ _ _ _ _ (it : Nat) (8 : Int) (by omega) hS (by omega) (by omega)) ?_)
        clear hF; rintro _ w ⟨r201, it202, rfl, hb203, hiit202, hS1⟩ a hF; replace hS := hS1; clear hS1
        refine seq_yl hF (wn_t hF rfl rfl rfl rfl) rfl rfl (yl_bin hF rfl rfl rfl rfl (fun _ => run_eql)) ?_
        clear hF; intro a hF
        refine seq_yl hF (wn_none rfl) rfl rfl (yl_pick (u := _) (v := undef) hF rfl rfl (fun _ => rfl) (fun h => by cases h)) ?_
        clear hF; intro a hF
        refine wpList_nil ?_
        refine then_n ?_
        refine c_cond hF rfl (fun hc204 => ?_) (fun hc204 => ?_)
        · first | (replace hc204 := of_decide_eq_true hc204) | (replace hc204 := of_decide_eq_false (bnot_t hc204)) | (subst hc204) | (replace hc204 := bnot_t hc204; subst hc204) | (replace hc204 := bnot_t hc204) | skip
          refine c_region ?_
          refine seq_yl hF (wn_none rfl) rfl rfl (yl_move hF rfl rfl) ?_
          clear hF; intro a hF
          refine seq_yl hF (wn_none rfl) rfl rfl (yl_move hF rfl rfl) ?_
          clear hF; intro a hF
          refine seq_yl hF (wn_none rfl) rfl rfl (yl_move hF rfl rfl) ?_
          clear hF; intro a hF
          refine seq_yl hF (wn_none rfl) rfl rfl (yl_len hF rfl rfl (fun _ => run_lenRd sl26 (hS.rdRow 2 rfl))) ?_
          clear hF; intro a hF
          refine seq_wp (wn_none rfl) (wp_call (vs := [_, _]) hF rfl rfl rfl rfl cf7 (next_any _ _ _ _ _ _ _ (it202 : Nat) (((E).length : Nat) : Int) (by omega) hS (by omega) (by omega)) ?_)
          clear hF; rintro _ w ⟨r205, it206, rfl, hb207, hiit206, hS1⟩ a hF; replace hS := hS1; clear hS1
          obtain ⟨rn208, rfl⟩ : ∃ n : Nat, r205 = n := ⟨r205.toNat, by omega⟩
          refine seq_yl hF (wn_none rfl) rfl rfl (yl_move hF rfl rfl) ?_
          clear hF; intro a hF
          refine seq_wp (wn_none rfl) (wp_call (vs := [_]) hF rfl rfl rfl rfl cf8 (odd_any _ _ _ _ _ _ _ (it206 : Nat) hS (by omega) (by omega)) ?_)
          clear hF; rintro _ w ⟨r209, it210, rfl, hb211, hiit210, hS1⟩ a hF; replace hS := hS1; clear hS1
          refine seq_yl hF (wn_none rfl) rfl rfl (yl_move hF rfl rfl) ?_
          clear hF; intro a hF
          refine seq_wp (wn_none rfl) (wp_call (vs := [_]) hF rfl rfl rfl rfl cf8 (odd_any _ _ _ _ _ _ _ (it210 : Nat) hS (by omega) (by omega)) ?_)
          clear hF; rintro _ w ⟨r212, it213, rfl, hb214, hiit213, hS1⟩ a hF; replace hS := hS1; clear hS1
          refine seq_yl hF (wn_none rfl) rfl rfl (yl_build (parts := [(0, .tmp 37), (1, .tmp 39)]) (vs := [(0, _), (1, _)]) (cs := [_, _]) hF bd44 rfl rfl rfl rfl) ?_
          clear hF; intro a hF
          have hlt_hx215 : rn208 < (E).length := by first | omega | (simp; done) | (simp; omega)
          obtain ⟨ad216, rfl⟩ := rd_some (hS.rdRow 2 rfl) hlt_hx215
          obtain ⟨x215, hx215⟩ := get_some hlt_hx215
          refine seq_yl hF (wn_none rfl) rfl rfl (yl_indexAddr hF rfl rfl rfl (fun _ => run_idx' sl26 sz44 (hS.rdRow 2 rfl) hlt_hx215)) ?_
          clear hF; intro a hF
          refine seq_wp (wn_none rfl) (wp_storeAt0 (enc := enc44) (z' := (E44.mk (r209) (r212))) hF hS rfl rfl rfl rfl 2 rfl sz44 (by simp [Value.cells, Value.oneCell']) enc44_len hx215 (by simp [Value.cells]) rfl ?_)
          clear hF hS; intro a w hF hS
          have hlt_hx217 : rn208 < (E.set rn208 (E44.mk (r209) (r212))).length := by simpa using hlt_hx215
          obtain ⟨x217, hx217, hex217⟩ : ∃ x, (E.set rn208 (E44.mk (r209) (r212)))[rn208]? = some x ∧ x = (E44.mk (r209) (r212)) := ⟨_, List.getElem?_set_self hlt_hx215, rfl⟩
          refine wpList_nil ?_
          refine then_n ?_
          refine c_seq ?_
          refine c_region ?_
          refine seq_yl hF (wn_none rfl) rfl rfl (yl_move hF rfl rfl) ?_
          clear hF; intro a hF
          refine seq_yl hF (wn_none rfl) rfl rfl (yl_assign hF rfl rfl) ?_
          clear hF; intro a hF
          refine wpList_nil ?_
          refine then_n ?_
          refine wp_ret ?_
          refine ret_t hF rfl rfl ?_
          exact ⟨_, rfl, _, (E.set rn208 (E44.mk (r209) (r212))), it213, rfl, by first | omega | (simp; omega), by omega, (hS.subT 3 [2, 0, 1] (by decide) (by first | rfl | simp) (by simp) (by simp))⟩
        · first | (replace hc204 := of_decide_eq_false hc204) | (replace hc204 := of_decide_eq_true (bnot_f hc204)) | (subst hc204) | (replace hc204 := bnot_f hc204; subst hc204) | (replace hc204 := bnot_f hc204) | skip
          refine wp_skip ?_
          refine then_n ?_
          refine c_seq ?_
          refine c_region ?_
          refine seq_yl hF (wn_none rfl) rfl rfl (yl_move hF rfl rfl) ?_
          clear hF; intro a hF
          refine seq_yl hF (wn_none rfl) rfl rfl (yl_assign hF rfl rfl) ?_
          clear hF; intro a hF
          refine wpList_nil ?_
          refine then_n ?_
          refine wp_ret ?_
          refine ret_t hF rfl rfl ?_
          exact ⟨_, rfl, _, E, it202, rfl, by first | omega | (simp; omega), by omega, (hS.subT 3 [2, 0, 1] (by decide) (by first | rfl | simp) (by simp) (by simp))⟩
      · first | (replace hc200 := of_decide_eq_false hc200) | (replace hc200 := of_decide_eq_true (bnot_f hc200)) | (subst hc200) | (replace hc200 := bnot_f hc200; subst hc200) | (replace hc200 := bnot_f hc200) | skip
        refine seq_skip hF (wn_f hF rfl rfl rfl rfl) rfl rfl ?_
        clear hF; intro a hF
        refine seq_skip hF (wn_f hF rfl rfl rfl rfl) rfl rfl ?_
        clear hF; intro a hF
        refine seq_skip hF (wn_f hF rfl rfl rfl rfl) rfl rfl ?_
        clear hF; intro a hF
        refine seq_yl hF (wn_none rfl) rfl rfl (yl_pick (u := _) (v := undef) hF rfl rfl (fun h => by cases h) (fun _ => rfl)) ?_
        clear hF; intro a hF
        refine wpList_nil ?_
        refine then_n ?_
        refine c_cond_f hF rfl ?_
        refine wp_skip ?_
        refine then_n ?_
        refine c_seq ?_
        refine c_region ?_
        refine seq_yl hF (wn_none rfl) rfl rfl (yl_move hF rfl rfl) ?_
        clear hF; intro a hF
        refine seq_yl hF (wn_none rfl) rfl rfl (yl_assign hF rfl rfl) ?_
        clear hF; intro a hF
        refine wpList_nil ?_
        refine then_n ?_
        refine wp_ret ?_
        refine ret_t hF rfl rfl ?_
        exact ⟨_, rfl, _, E, it, rfl, by first | omega | (simp; omega), by omega, (hS.subT 3 [2, 0, 1] (by decide) (by first | rfl | simp) (by simp) (by simp))⟩

end Go.Proofs.Ytffaminjbcfojaa

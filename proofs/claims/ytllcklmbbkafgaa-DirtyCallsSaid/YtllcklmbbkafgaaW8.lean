/- walks, printed by wip/gen -/
import Derived.Test.YtllcklmbbkafgaaW6
import Derived.Test.YtllcklmbbkafgaaV2
namespace Go.Proofs.Ytllcklmbbkafgaa
open Go.RowKit
set_option linter.unusedVariables false
set_option linter.unusedSimpArgs false

theorem odd_any (w0 w : World) (Ht : List Chunk) (g : Nat) (Av : Option Addr) (cv : Nat) (L : List Int) (i : Nat) (hS : Sat w0 w (.box g 25 #[.slice Av L.length cv, .int .i64 ((i : Nat) : Int)] :: .ro 1 (.slice Av L.length cv) L.length (cells encI L) :: Ht)) (hi : i ≤ L.length) (hL : L.length ≤ 9223372036854775807) :
    Fn Try.prog 8 #[.pointer (some ⟨g, 0, none⟩)] w (fun v w' => ∃ (r : Int) (i' : Nat), v = .int .i64 r ∧ (-9223372036854775808 ≤ r ∧ r ≤ 9223372036854775807) ∧ i' ≤ L.length ∧ Sat w0 w' (.box g 25 #[.slice Av L.length cv, .int .i64 ((i' : Nat) : Int)] :: .ro 1 (.slice Av L.length cv) L.length (cells encI L) :: Ht)) := by
  refine c_enterS (N := 8) (l := [_]) Try.func8 rfl rfl (fun a hF => ?_)
  refine c_seq ?_
  refine c_region ?_
  refine seq_yl hF (wn_none rfl) rfl rfl (yl_assign hF rfl rfl) ?_
  clear hF; intro a hF
  refine wpList_nil ?_
  refine then_n ?_
  refine c_seq ?_
  refine c_region ?_
  refine seq_wp (wn_none rfl) (wp_bslice (parts := [(0, .const (Go.Value.int Go.IntKind.i64 0)), (1, .const (Go.Value.int Go.IntKind.i64 1)), (2, .const (Go.Value.int Go.IntKind.i64 2)), (3, .const (Go.Value.int Go.IntKind.i64 3)), (4, .const (Go.Value.int Go.IntKind.i64 4)), (5, .const (Go.Value.int Go.IntKind.i64 7)), (6, .const (Go.Value.int Go.IntKind.i64 8)), (7, .const (Go.Value.int Go.IntKind.i64 15)), (8, .const (Go.Value.int Go.IntKind.i64 16)), (9, .const (Go.Value.int Go.IntKind.i64 63)), (10, .const (Go.Value.int Go.IntKind.i64 64)), (11, .const (Go.Value.int Go.IntKind.i64 128)), (12, .const (Go.Value.int Go.IntKind.i64 255)), (13, .const (Go.Value.int Go.IntKind.i64 256)), (14, .const (Go.Value.int Go.IntKind.i64 (-1))), (15, .const (Go.Value.int Go.IntKind.i64 1000000)), (16, .const (Go.Value.int Go.IntKind.i64 1000001)), (17, .const (Go.Value.int Go.IntKind.i64 4611686018427387904)), (18, .const (Go.Value.int Go.IntKind.i64 (-9223372036854775808)))]) (vs := [(0, _), (1, _), (2, _), (3, _), (4, _), (5, _), (6, _), (7, _), (8, _), (9, _), (10, _), (11, _), (12, _), (13, _), (14, _), (15, _), (16, _), (17, _), (18, _)]) (enc := encI) (e := 3) (size := 1) (cs := #[.int .i64 (0 : Int), .int .i64 (1 : Int), .int .i64 (2 : Int), .int .i64 (3 : Int), .int .i64 (4 : Int), .int .i64 (7 : Int), .int .i64 (8 : Int), .int .i64 (15 : Int), .int .i64 (16 : Int), .int .i64 (63 : Int), .int .i64 (64 : Int), .int .i64 (128 : Int), .int .i64 (255 : Int), .int .i64 (256 : Int), .int .i64 (-1 : Int), .int .i64 (1000000 : Int), .int .i64 (1000001 : Int), .int .i64 (4611686018427387904 : Int), .int .i64 (-9223372036854775808 : Int)]) hF hS rfl rfl rfl rfl ([(0 : Int), (1 : Int), (2 : Int), (3 : Int), (4 : Int), (7 : Int), (8 : Int), (15 : Int), (16 : Int), (63 : Int), (64 : Int), (128 : Int), (255 : Int), (256 : Int), (-1 : Int), (1000000 : Int), (1000001 : Int), (4611686018427387904 : Int), (-9223372036854775808 : Int)] : List Int) (fun w => by kernel_rfl) rfl rfl rfl (by decide) ?_)
  clear hF hS; intro a w v163 hF hS
  obtain ⟨Av163, cv163, rfl⟩ := hS.form 0 rfl
  have hodd : ∀ e ∈ ([(0 : Int), (1 : Int), (2 : Int), (3 : Int), (4 : Int), (7 : Int), (8 : Int), (15 : Int), (16 : Int), (63 : Int), (64 : Int), (128 : Int), (255 : Int), (256 : Int), (-1 : Int), (1000000 : Int), (1000001 : Int), (4611686018427387904 : Int), (-9223372036854775808 : Int)] : List Int), (-9223372036854775808 : Int) ≤ e ∧ e ≤ 9223372036854775807 := by decide
  refine seq_yl hF (wn_none rfl) rfl rfl (yl_move hF rfl rfl) ?_
  clear hF; intro a hF
  replace hS := (hS.subT 3 [1, 2, 0] (by decide) (by first | rfl | simp) (by simp) (by simp))
  refine seq_wp (wn_none rfl) (wp_call (vs := [_, _]) hF rfl rfl rfl rfl cf7 (next_any _ _ _ _ _ _ _ (i : Nat) (19 : Int) (by omega) hS (by omega) (by omega)) ?_)
  clear hF; rintro _ w ⟨r164, it165, rfl, hb166, hiit165, hS1⟩ a hF; replace hS := hS1; clear hS1
  obtain ⟨rn167, rfl⟩ : ∃ n : Nat, r164 = n := ⟨r164.toNat, by omega⟩
  have hlt_hx168 : rn167 < (([(0 : Int), (1 : Int), (2 : Int), (3 : Int), (4 : Int), (7 : Int), (8 : Int), (15 : Int), (16 : Int), (63 : Int), (64 : Int), (128 : Int), (255 : Int), (256 : Int), (-1 : Int), (1000000 : Int), (1000001 : Int), (4611686018427387904 : Int), (-9223372036854775808 : Int)] : List Int)).length := by first | omega | (simp; done) | (simp; omega)
  obtain ⟨ad169, rfl⟩ := rd_some (hS.rdRow 2 rfl) hlt_hx168
  obtain ⟨x168, hx168⟩ := get_some hlt_hx168
  have hb_x168 := hodd x168 (List.mem_of_getElem? hx168)
  refine seq_yl hF (wn_none rfl) rfl rfl (yl_indexAddr hF rfl rfl rfl (fun _ => run_idx' sl22 sz3 (hS.rdRow 2 rfl) hlt_hx168)) ?_
  clear hF; intro a hF
  refine seq_yl hF (wn_none rfl) rfl rfl (yl_loadAt hF rfl rfl ag3 (fun _ h => rd_cell0 (by subst h; exact hS.rdRow 2 rfl) encI_len hx168 rfl rfl)) ?_
  clear hF; intro a hF
  refine seq_yl hF (wn_none rfl) rfl rfl (yl_assign hF rfl rfl) ?_
  clear hF; intro a hF
  refine wpList_nil ?_
  refine then_n ?_
  refine wp_ret ?_
  refine ret_t hF rfl rfl ?_
  exact ⟨_, rfl, _, it165, rfl, ⟨by omega, by omega⟩, by omega, (hS.subT 3 [0, 1] (by decide) (by first | rfl | simp) (by simp) (by simp))⟩

theorem drawn_any (w0 w : World) (Ht : List Chunk) (g : Nat) (Av : Option Addr) (cv : Nat) (L : List Int) (i : Nat) (hS : Sat w0 w (.box g 25 #[.slice Av L.length cv, .int .i64 ((i : Nat) : Int)] :: .ro 1 (.slice Av L.length cv) L.length (cells encI L) :: Ht)) (hi : i ≤ L.length) (hL : L.length ≤ 9223372036854775807) :
    Fn Try.prog 6 #[.pointer (some ⟨g, 0, none⟩)] w (fun v w' => ∃ (v1 : Value) (D : List Int) (p q : Int) (i' : Nat), v = .agg #[v1, .int .i64 p, .int .i64 q] ∧ 1 ≤ D.length ∧ D.length ≤ 6 ∧ i' ≤ L.length ∧ Sat w0 w' (.row 3 1 v1 (D).length (cells encI (D)) :: .box g 25 #[.slice Av L.length cv, .int .i64 ((i' : Nat) : Int)] :: .ro 1 (.slice Av L.length cv) L.length (cells encI L) :: Ht)) := by
  refine c_enterS (N := 56) (l := [_]) Try.func6 rfl rfl (fun a hF => ?_)
  refine c_seq ?_
  refine c_region ?_
  refine seq_wp (wn_none rfl) (wp_alloc (cs := #[_, _, _]) hF hS rfl rfl rfl zr27 rfl ?_)
  clear hF hS; intro a w g170 hF hS
  refine wpList_nil ?_
  refine then_n ?_
  refine c_seq ?_
  refine c_region ?_
  refine seq_yl hF (wn_none rfl) rfl rfl (yl_move hF rfl rfl) ?_
  clear hF; intro a hF
  replace hS := (hS.subT 3 [1, 2, 0] (by decide) (by first | rfl | simp) (by simp) (by simp))
  refine seq_wp (wn_none rfl) (wp_call (vs := [_, _]) hF rfl rfl rfl rfl cf7 (next_any _ _ _ _ _ _ _ (i : Nat) (20 : Int) (by omega) hS (by omega) (by omega)) ?_)
  clear hF; rintro _ w ⟨r171, it172, rfl, hb173, hiit172, hS1⟩ a hF; replace hS := hS1; clear hS1
  refine seq_yl hF (wn_none rfl) rfl rfl (yl_bin hF rfl rfl rfl rfl (fun _ => run_add (by refine ⟨?_, ?_⟩ <;> omega))) ?_
  clear hF; intro a hF
  refine seq_yl hF (wn_none rfl) rfl rfl (yl_build (parts := [(1, .tmp 7)]) (vs := [(1, _)]) (cs := [_, _, _]) hF bd27 rfl rfl rfl rfl) ?_
  clear hF; intro a hF
  refine seq_wp (wn_none rfl) (wp_alloc (cs := #[_, _, _]) hF hS rfl rfl rfl zr27 rfl ?_)
  clear hF hS; intro a w g174 hF hS
  refine seq_wp (wn_none rfl) (wp_store (cs' := #[_, _, _]) hF hS rfl rfl rfl rfl 0 rfl sz27 (by simp [Value.cells, Value.oneCell']) (by simp [Value.cells]) rfl ?_)
  clear hF hS; intro a w hF hS
  refine wpList_nil ?_
  refine then_n ?_
  refine c_seq ?_
  refine c_region ?_
  refine seq_yl hF (wn_none rfl) rfl rfl (yl_move hF rfl rfl) ?_
  clear hF; intro a hF
  refine seq_yl hF (wn_none rfl) rfl rfl (yl_fieldAddr hF rfl rfl (fun w => by kernel_rfl : ∀ w, (Instr.fieldAt 27 (.pointer (some ⟨g174, 0, none⟩)) 1).run Try.prog w = .ok (.pointer (some ⟨g174, 1, none⟩)) w)) ?_
  clear hF; intro a hF
  refine seq_yl hF (wn_none rfl) rfl rfl (yl_load (fun _ h => h ▸ hS) hF rfl rfl 0 rfl ag3 rfl) ?_
  clear hF; intro a hF
  replace hS := (hS.subT 4 [1, 2, 0, 3] (by decide) (by first | rfl | simp) (by simp) (by simp))
  refine seq_wp (wn_none rfl) (wp_call (vs := [_, _]) hF rfl rfl rfl rfl cf7 (next_any _ _ _ _ _ _ _ (it172 : Nat) (((1 : Int) + (r171))) (by omega) hS (by omega) (by omega)) ?_)
  clear hF; rintro _ w ⟨r175, it176, rfl, hb177, hiit176, hS1⟩ a hF; replace hS := hS1; clear hS1
  refine seq_yl hF (wn_none rfl) rfl rfl (yl_bin hF rfl rfl rfl rfl (fun _ => run_add (by refine ⟨?_, ?_⟩ <;> omega))) ?_
  clear hF; intro a hF
  refine seq_yl hF (wn_none rfl) rfl rfl (yl_fieldAddr hF rfl rfl (fun w => by kernel_rfl : ∀ w, (Instr.fieldAt 27 (.pointer (some ⟨g174, 0, none⟩)) 2).run Try.prog w = .ok (.pointer (some ⟨g174, 2, none⟩)) w)) ?_
  clear hF; intro a hF
  refine seq_wp (wn_none rfl) (wp_store (cs' := #[_, _, _]) hF hS rfl rfl rfl rfl 2 rfl sz3 (by simp [Value.cells, Value.oneCell']) (by simp [Value.cells]) rfl ?_)
  clear hF hS; intro a w hF hS
  refine wpList_nil ?_
  refine then_n ?_
  refine c_seq ?_
  refine c_seq ?_
  refine c_region ?_
  refine seq_yl hF (wn_none rfl) rfl rfl (yl_move hF rfl rfl) ?_
  clear hF; intro a hF
  refine seq_wp (wn_none rfl) (wp_call (vs := [_, _]) hF rfl rfl rfl rfl cf7 (next_any _ _ _ _ _ _ _ (it176 : Nat) (4 : Int) (by omega) hS (by omega) (by omega)) ?_)
  clear hF; rintro _ w ⟨r178, it179, rfl, hb180, hiit179, hS1⟩ a hF; replace hS := hS1; clear hS1
  refine seq_yl hF (wn_none rfl) rfl rfl (yl_bin hF rfl rfl rfl rfl (fun _ => run_add (by refine ⟨?_, ?_⟩ <;> omega))) ?_
  clear hF; intro a hF
  refine seq_yl hF (wn_none rfl) rfl rfl (yl_assign hF rfl rfl) ?_
  clear hF; intro a hF
  refine wpList_nil ?_
  refine then_n ?_
  refine wp_block ?_
  replace hS := hS.addNil 3 1
  refine c_loop (fun m a w => ∃ (nn : Int) (it : Nat) (E : List Int) (AvE : Option Addr) (cvE : Nat), m = nn.toNat ∧ (0 ≤ nn ∧ nn + E.length = (((1 : Int) + (r178))) ∧ it ≤ L.length) ∧ Fr 56 a [(0, .pointer (some ⟨g, 0, none⟩)), (2, .pointer (some ⟨g170, 0, none⟩)), (3, .pointer (some ⟨g174, 0, none⟩)), (4, .int .i64 (nn))] ∧ Sat w0 w (.box g 25 #[.slice Av L.length cv, .int .i64 ((it : Nat) : Int)] :: .ro 1 (.slice Av L.length cv) (L).length (cells encI (L)) :: .box g174 27 #[.slice AvE (E).length cvE, .int .i64 (((1 : Int) + (r171))), .int .i64 (((1 : Int) + (r175)))] :: .box g170 27 #[.slice none 0 0, .int .i64 (0 : Int), .int .i64 (0 : Int)] :: .row 3 1 (.slice AvE (E).length cvE) (E).length (cells encI (E)) :: Ht)) (((((1 : Int) + (r178)))).toNat) ?_ ?_
  · exact ⟨(((1 : Int) + (r178))), it179, [], none, 0, rfl, ⟨by omega, by simp, by omega⟩, hF.to [0, 2, 3, 4] rfl, (hS.subT 5 [1, 2, 3, 4, 0] (by decide) (by first | rfl | simp) (by simp) (by simp))⟩
  · clear hF hS; try clear hSS
    clear a w; rintro m a w ⟨nn, it, E, AvE, cvE, rfl, hinv, hF, hS⟩
    obtain ⟨hn0, hnE, hit⟩ := hinv
    refine c_seq ?_
    refine c_seq ?_
    refine c_region ?_
    refine seq_yl hF (wn_none rfl) rfl rfl (yl_move hF rfl rfl) ?_
    clear hF; intro a hF
    refine seq_yl hF (wn_none rfl) rfl rfl (yl_bin hF rfl rfl rfl rfl (fun _ => run_gtr)) ?_
    clear hF; intro a hF
    refine wpList_nil ?_
    refine then_n ?_
    refine c_cond hF rfl (fun hc181 => ?_) (fun hc181 => ?_)
    · first | (replace hc181 := of_decide_eq_true hc181) | (replace hc181 := of_decide_eq_false (bnot_t hc181)) | (subst hc181) | (replace hc181 := bnot_t hc181; subst hc181) | (replace hc181 := bnot_t hc181) | skip
      refine wp_skip ?_
      refine then_n ?_
      refine c_seq ?_
      refine wp_block ?_
      refine ha_startS hS [2] 7 (by kernel_rfl) ?_; clear hS; intro w hS
      have hSS := hS.sub [2] (by decide) rfl (by simp)
      refine ha_yl 0 hF rfl rfl rfl (by kernel_rfl) (by kernel_rfl) (by kernel_rfl) (by decide) (fun _ _ _ h => h) (wn_none rfl) (.inr hSS) (yl_fieldAddr hF rfl rfl (fun w => by kernel_rfl : ∀ w, (Instr.fieldAt 27 (.pointer (some ⟨g174, 0, none⟩)) 0).run Try.prog w = .ok (.pointer (some ⟨g174, 0, none⟩)) w)) ?_
      clear hF; intro a hF
      refine ha_yl 2 hF rfl rfl rfl (by kernel_rfl) (by kernel_rfl) (by kernel_rfl) (by decide) (fun _ _ _ h => h) (wn_none rfl) (.inr hSS) (yl_move hF rfl rfl) ?_
      clear hF; intro a hF
      refine ha_ld 1 hF rfl rfl rfl (by kernel_rfl) (by kernel_rfl) (by kernel_rfl) (by decide) (by kernel_rfl) (by kernel_rfl) (fun _ _ _ h => h) (wn_none rfl) hSS (yl_load (fun _ h => h) hF rfl rfl 0 rfl ag22 rfl) ?_
      clear hF; intro a hF
      refine ha_one 3 (by kernel_rfl) rfl (wn_none rfl) (wp_call (vs := [_, _]) hF rfl rfl rfl rfl cf7 (next_any _ _ _ _ _ _ _ (it : Nat) (30 : Int) (by omega) hS (by omega) (by omega)) ?_)
      clear hF; rintro _ w ⟨r182, it183, rfl, hb184, hiit183, hS1⟩ a hF; replace hS := hS1; clear hS1
      replace hSS := hS.sub [2] (by decide) rfl (by simp)
      refine ⟨.inr hSS, ?_⟩
      refine ha_one 4 (by kernel_rfl) rfl (wn_none rfl) (wp_bslice (parts := [(0, .tmp 25)]) (vs := [(0, _)]) (enc := encI) (e := 3) (size := 1) (cs := #[.int .i64 (r182)]) hF hS rfl rfl rfl rfl ([(r182)] : List Int) (fun w => by kernel_rfl) rfl rfl rfl (by decide) ?_)
      clear hF hS; intro a w v185 hF hS
      obtain ⟨Av185, cv185, rfl⟩ := hS.form 0 rfl
      replace hSS := hS.sub [3] (by decide) rfl (by simp)
      refine ⟨.inr hSS, ?_⟩
      refine ha_one 5 (by kernel_rfl) rfl (wn_none rfl) (wp_app (enc := encI) hF hS rfl rfl rfl rfl rfl 5 rfl sl22 inf3 rfl (by decide) (hS.rdRow 0 rfl) encI_one (by decide) (by first | omega | (simp only [List.length_append, List.length_cons, List.length_nil]; omega)) ?_)
      clear hF hS; intro a w v186 hF hS
      obtain ⟨Av186, cv186, rfl⟩ := hS.form 5 rfl
      replace hSS := hS.sub [3] (by decide) rfl (by simp)
      refine ⟨.inr hSS, ?_⟩
      refine ha_yl 6 hF rfl rfl rfl (by kernel_rfl) (by kernel_rfl) (by kernel_rfl) (by decide) (fun _ _ _ h => h) (wn_none rfl) (.inr hSS) (yl_fieldAddr hF rfl rfl (fun w => by kernel_rfl : ∀ w, (Instr.fieldAt 27 (.pointer (some ⟨g174, 0, none⟩)) 0).run Try.prog w = .ok (.pointer (some ⟨g174, 0, none⟩)) w)) ?_
      clear hF; intro a hF
      refine ha_one 7 (by kernel_rfl) rfl (wn_none rfl) (wp_store (cs' := #[_, _, _]) hF hS rfl rfl rfl rfl 3 rfl sz22 (by simp [Value.cells, Value.oneCell']) (by simp [Value.cells]) rfl ?_)
      clear hF hS; intro a w hF hS
      refine ⟨.inl (by kernel_rfl), ?_⟩
      refine ha_done (by kernel_rfl) ?_ _
      refine inb_n ?_
      refine then_n ?_
      refine c_region ?_
      refine seq_yl hF (wn_none rfl) rfl rfl (yl_move hF rfl rfl) ?_
      clear hF; intro a hF
      refine seq_yl hF (wn_none rfl) rfl rfl (yl_bin hF rfl rfl rfl rfl (fun _ => run_sub (by refine ⟨?_, ?_⟩ <;> omega))) ?_
      clear hF; intro a hF
      refine seq_yl hF (wn_none rfl) rfl rfl (yl_assign hF rfl rfl) ?_
      clear hF; intro a hF
      refine wpList_nil ?_
      refine then_n ?_
      exact ⟨_, (by omega), (((nn) - (1 : Int))), it183, (E ++ ([(r182)] : List Int)), Av186, cv186, rfl, ⟨by omega, by rw [List.length_append, List.length_singleton]; omega, by omega⟩, hF.to [0, 2, 3, 4] rfl, (hS.subT 6 [1, 2, 3, 4, 5] (by decide) (by first | rfl | simp) (by simp) (by simp))⟩
    · first | (replace hc181 := of_decide_eq_false hc181) | (replace hc181 := of_decide_eq_true (bnot_f hc181)) | (subst hc181) | (replace hc181 := bnot_f hc181; subst hc181) | (replace hc181 := bnot_f hc181) | skip
      refine wp_exit ?_
      refine then_x ?_
      refine then_x ?_
      refine inb_x ?_
      refine then_n ?_
      refine c_seq ?_
      refine c_seq ?_
      refine c_region ?_
      refine seq_yl hF (wn_none rfl) rfl rfl (yl_move hF rfl rfl) ?_
      clear hF; intro a hF
      refine seq_wp (wn_none rfl) (wp_call (vs := [_, _]) hF rfl rfl rfl rfl cf7 (next_any _ _ _ _ _ _ _ (it : Nat) (12 : Int) (by omega) hS (by omega) (by omega)) ?_)
      clear hF; rintro _ w ⟨r187, it188, rfl, hb189, hiit188, hS1⟩ a hF; replace hS := hS1; clear hS1
      refine wpList_nil ?_
      refine then_n ?_
      refine wp_block ?_
      refine c_seq ?_
      refine c_region ?_
      refine seq_yl hF (wn_none rfl) rfl rfl (yl_bin hF rfl rfl rfl rfl (fun _ => run_eql)) ?_
      clear hF; intro a hF
      refine seq_yl hF (wn_none rfl) rfl rfl (yl_assign hF rfl rfl) ?_
      clear hF; intro a hF
      refine wpList_nil ?_
      refine then_n ?_
      refine c_cond hF rfl (fun hc190 => ?_) (fun hc190 => ?_)
      · first | (replace hc190 := of_decide_eq_true hc190) | (replace hc190 := of_decide_eq_false (bnot_t hc190)) | (subst hc190) | (replace hc190 := bnot_t hc190; subst hc190) | (replace hc190 := bnot_t hc190) | skip
        refine c_region ?_
        refine seq_yl hF (wn_none rfl) rfl rfl (yl_move hF rfl rfl) ?_
        clear hF; intro a hF
        refine seq_wp (wn_none rfl) (wp_call (vs := [_]) hF rfl rfl rfl rfl cf8 (odd_any _ _ _ _ _ _ _ (it188 : Nat) hS (by omega) (by omega)) ?_)
        clear hF; rintro _ w ⟨r191, it192, rfl, hb193, hiit192, hS1⟩ a hF; replace hS := hS1; clear hS1
        refine seq_yl hF (wn_none rfl) rfl rfl (yl_fieldAddr hF rfl rfl (fun w => by kernel_rfl : ∀ w, (Instr.fieldAt 27 (.pointer (some ⟨g174, 0, none⟩)) 1).run Try.prog w = .ok (.pointer (some ⟨g174, 1, none⟩)) w)) ?_
        clear hF; intro a hF
        refine seq_wp (wn_none rfl) (wp_store (cs' := #[_, _, _]) hF hS rfl rfl rfl rfl 2 rfl sz3 (by simp [Value.cells, Value.oneCell']) (by simp [Value.cells]) rfl ?_)
        clear hF hS; intro a w hF hS
        refine wpList_nil ?_
        refine inb_n ?_
        refine then_n ?_
        refine c_seq ?_
        refine c_region ?_
        refine seq_yl hF (wn_none rfl) rfl rfl (yl_loadK (rs := [_, _, _]) (fun _ h => h ▸ hS) hF rfl rfl 2 rfl ag27 sz27 rfl rfl) ?_
        clear hF; intro a hF
        refine seq_wp (wn_none rfl) (wp_store (cs' := #[_, _, _]) hF hS rfl rfl rfl rfl 3 rfl sz27 (by simp [Value.cells, Value.oneCell']) (by simp [Value.cells]) rfl ?_)
        clear hF hS; intro a w hF hS
        refine wpList_nil ?_
        refine then_n ?_
        refine wp_ret ?_
        refine ret_c hF rfl (resC hS rfl 3 rfl ag27 sz27) ?_
        exact ⟨_, rfl, _, E, _, _, it192, rfl, by first | omega | (simp; done) | (simp; omega), by first | omega | (simp; done) | (simp; omega), by omega, (hS.subT 5 [4, 0, 1] (by decide) (by first | rfl | simp) (by simp) (by simp))⟩
      · first | (replace hc190 := of_decide_eq_false hc190) | (replace hc190 := of_decide_eq_true (bnot_f hc190)) | (subst hc190) | (replace hc190 := bnot_f hc190; subst hc190) | (replace hc190 := bnot_f hc190) | skip
        refine c_seq ?_
        refine c_region ?_
        refine seq_yl hF (wn_none rfl) rfl rfl (yl_bin hF rfl rfl rfl rfl (fun _ => run_eql)) ?_
        clear hF; intro a hF
        refine seq_yl hF (wn_none rfl) rfl rfl (yl_assign hF rfl rfl) ?_
        clear hF; intro a hF
        refine wpList_nil ?_
        refine then_n ?_
        refine c_cond hF rfl (fun hc194 => ?_) (fun hc194 => ?_)
        · first | (replace hc194 := of_decide_eq_true hc194) | (replace hc194 := of_decide_eq_false (bnot_t hc194)) | (subst hc194) | (replace hc194 := bnot_t hc194; subst hc194) | (replace hc194 := bnot_t hc194) | skip
          refine c_region ?_
          refine seq_yl hF (wn_none rfl) rfl rfl (yl_move hF rfl rfl) ?_
          clear hF; intro a hF
          refine seq_wp (wn_none rfl) (wp_call (vs := [_]) hF rfl rfl rfl rfl cf8 (odd_any _ _ _ _ _ _ _ (it188 : Nat) hS (by omega) (by omega)) ?_)
          clear hF; rintro _ w ⟨r195, it196, rfl, hb197, hiit196, hS1⟩ a hF; replace hS := hS1; clear hS1
          refine seq_yl hF (wn_none rfl) rfl rfl (yl_fieldAddr hF rfl rfl (fun w => by kernel_rfl : ∀ w, (Instr.fieldAt 27 (.pointer (some ⟨g174, 0, none⟩)) 2).run Try.prog w = .ok (.pointer (some ⟨g174, 2, none⟩)) w)) ?_
          clear hF; intro a hF
          refine seq_wp (wn_none rfl) (wp_store (cs' := #[_, _, _]) hF hS rfl rfl rfl rfl 2 rfl sz3 (by simp [Value.cells, Value.oneCell']) (by simp [Value.cells]) rfl ?_)
          clear hF hS; intro a w hF hS
          refine wpList_nil ?_
          refine inb_n ?_
          refine then_n ?_
          refine c_seq ?_
          refine c_region ?_
          refine seq_yl hF (wn_none rfl) rfl rfl (yl_loadK (rs := [_, _, _]) (fun _ h => h ▸ hS) hF rfl rfl 2 rfl ag27 sz27 rfl rfl) ?_
          clear hF; intro a hF
          refine seq_wp (wn_none rfl) (wp_store (cs' := #[_, _, _]) hF hS rfl rfl rfl rfl 3 rfl sz27 (by simp [Value.cells, Value.oneCell']) (by simp [Value.cells]) rfl ?_)
          clear hF hS; intro a w hF hS
          refine wpList_nil ?_
          refine then_n ?_
          refine wp_ret ?_
          refine ret_c hF rfl (resC hS rfl 3 rfl ag27 sz27) ?_
          exact ⟨_, rfl, _, E, _, _, it196, rfl, by first | omega | (simp; done) | (simp; omega), by first | omega | (simp; done) | (simp; omega), by omega, (hS.subT 5 [4, 0, 1] (by decide) (by first | rfl | simp) (by simp) (by simp))⟩
        · first | (replace hc194 := of_decide_eq_false hc194) | (replace hc194 := of_decide_eq_true (bnot_f hc194)) | (subst hc194) | (replace hc194 := bnot_f hc194; subst hc194) | (replace hc194 := bnot_f hc194) | skip
          refine c_seq ?_
          refine c_region ?_
          refine seq_yl hF (wn_none rfl) rfl rfl (yl_bin hF rfl rfl rfl rfl (fun _ => run_eql)) ?_
          clear hF; intro a hF
          refine seq_yl hF (wn_none rfl) rfl rfl (yl_assign hF rfl rfl) ?_
          clear hF; intro a hF
          refine wpList_nil ?_
          refine then_n ?_
          refine c_cond hF rfl (fun hc198 => ?_) (fun hc198 => ?_)
          · first | (replace hc198 := of_decide_eq_true hc198) | (replace hc198 := of_decide_eq_false (bnot_t hc198)) | (subst hc198) | (replace hc198 := bnot_t hc198; subst hc198) | (replace hc198 := bnot_t hc198) | skip
            refine ha_startS hS [2] 6 (by kernel_rfl) ?_; clear hS; intro w hS
            have hSS := hS.sub [2] (by decide) rfl (by simp)
            refine ha_yl 0 hF rfl rfl rfl (by kernel_rfl) (by kernel_rfl) (by kernel_rfl) (by decide) (fun _ _ _ h => h) (wn_none rfl) (.inr hSS) (yl_fieldAddr hF rfl rfl (fun w => by kernel_rfl : ∀ w, (Instr.fieldAt 27 (.pointer (some ⟨g174, 0, none⟩)) 0).run Try.prog w = .ok (.pointer (some ⟨g174, 0, none⟩)) w)) ?_
            clear hF; intro a hF
            refine ha_yl 2 hF rfl rfl rfl (by kernel_rfl) (by kernel_rfl) (by kernel_rfl) (by decide) (fun _ _ _ h => h) (wn_none rfl) (.inr hSS) (yl_move hF rfl rfl) ?_
            clear hF; intro a hF
            refine ha_ld 1 hF rfl rfl rfl (by kernel_rfl) (by kernel_rfl) (by kernel_rfl) (by decide) (by kernel_rfl) (by kernel_rfl) (fun _ _ _ h => h) (wn_none rfl) hSS (yl_load (fun _ h => h) hF rfl rfl 0 rfl ag22 rfl) ?_
            clear hF; intro a hF
            refine ha_one 3 (by kernel_rfl) rfl (wn_none rfl) (wp_call (vs := [_]) hF rfl rfl rfl rfl cf8 (odd_any _ _ _ _ _ _ _ (it188 : Nat) hS (by omega) (by omega)) ?_)
            clear hF; rintro _ w ⟨r199, it200, rfl, hb201, hiit200, hS1⟩ a hF; replace hS := hS1; clear hS1
            replace hSS := hS.sub [2] (by decide) rfl (by simp)
            refine ⟨.inr hSS, ?_⟩
            have hlt_hx202 : 0 < (E).length := by first | omega | (simp; done) | (simp; omega)
            obtain ⟨ad203, rfl⟩ := rd_some (hS.rdRow 4 rfl) hlt_hx202
            obtain ⟨x202, hx202⟩ := get_some hlt_hx202
            refine ha_yl 4 hF rfl rfl rfl (by kernel_rfl) (by kernel_rfl) (by kernel_rfl) (by decide) (fun _ _ _ h => h) (wn_none rfl) (.inr hSS) (yl_indexAddr hF rfl rfl rfl (fun _ => run_idx' (k := 0) sl22 sz3 (hS.rdRow 4 rfl) hlt_hx202)) ?_
            clear hF; intro a hF
            refine ha_one 5 (by kernel_rfl) rfl (wn_none rfl) (wp_storeAt0 (enc := encI) (z' := (r199)) hF hS rfl rfl rfl rfl 4 rfl sz3 (by simp [Value.cells, Value.oneCell']) encI_len hx202 (by simp [Value.cells]) rfl ?_)
            clear hF hS; intro a w hF hS
            replace hSS := hS.sub [2] (by decide) rfl (by simp)
            refine ⟨.inr hSS, ?_⟩
            refine ha_done (by kernel_rfl) ?_ _
            refine inb_n ?_
            refine then_n ?_
            refine c_seq ?_
            refine c_region ?_
            refine seq_yl hF (wn_none rfl) rfl rfl (yl_loadK (rs := [_, _, _]) (fun _ h => h ▸ hS) hF rfl rfl 2 rfl ag27 sz27 rfl rfl) ?_
            clear hF; intro a hF
            refine seq_wp (wn_none rfl) (wp_store (cs' := #[_, _, _]) hF hS rfl rfl rfl rfl 3 rfl sz27 (by simp [Value.cells, Value.oneCell']) (by simp [Value.cells]) rfl ?_)
            clear hF hS; intro a w hF hS
            refine wpList_nil ?_
            refine then_n ?_
            refine wp_ret ?_
            refine ret_c hF rfl (resC hS rfl 3 rfl ag27 sz27) ?_
            exact ⟨_, rfl, _, (E.set 0 (r199)), _, _, it200, rfl, by first | omega | (simp; done) | (simp; omega), by first | omega | (simp; done) | (simp; omega), by omega, (hS.subT 5 [4, 0, 1] (by decide) (by first | rfl | simp) (by simp) (by simp))⟩
          · first | (replace hc198 := of_decide_eq_false hc198) | (replace hc198 := of_decide_eq_true (bnot_f hc198)) | (subst hc198) | (replace hc198 := bnot_f hc198; subst hc198) | (replace hc198 := bnot_f hc198) | skip
            refine c_seq ?_
            refine c_region ?_
            refine seq_yl hF (wn_none rfl) rfl rfl (yl_bin hF rfl rfl rfl rfl (fun _ => run_eql)) ?_
            clear hF; intro a hF
            refine seq_yl hF (wn_none rfl) rfl rfl (yl_assign hF rfl rfl) ?_
            clear hF; intro a hF
            refine wpList_nil ?_
            refine then_n ?_
            refine c_cond hF rfl (fun hc204 => ?_) (fun hc204 => ?_)
            · first | (replace hc204 := of_decide_eq_true hc204) | (replace hc204 := of_decide_eq_false (bnot_t hc204)) | (subst hc204) | (replace hc204 := bnot_t hc204; subst hc204) | (replace hc204 := bnot_t hc204) | skip
              refine c_region ?_
              refine seq_yl hF (wn_none rfl) rfl rfl (yl_fieldAddr hF rfl rfl (fun w => by kernel_rfl : ∀ w, (Instr.fieldAt 27 (.pointer (some ⟨g174, 0, none⟩)) 0).run Try.prog w = .ok (.pointer (some ⟨g174, 0, none⟩)) w)) ?_
              clear hF; intro a hF
              refine seq_yl hF (wn_none rfl) rfl rfl (yl_load (fun _ h => h ▸ hS) hF rfl rfl 2 rfl ag22 rfl) ?_
              clear hF; intro a hF
              refine seq_wp (wn_none rfl) (wp_bslice (parts := [(0, .const (Go.Value.int Go.IntKind.i64 1)), (1, .const (Go.Value.int Go.IntKind.i64 1))]) (vs := [(0, _), (1, _)]) (enc := encI) (e := 3) (size := 1) (cs := #[.int .i64 (1 : Int), .int .i64 (1 : Int)]) hF hS rfl rfl rfl rfl ([(1 : Int), (1 : Int)] : List Int) (fun w => by kernel_rfl) rfl rfl rfl (by decide) ?_)
              clear hF hS; intro a w v205 hF hS
              obtain ⟨Av205, cv205, rfl⟩ := hS.form 0 rfl
              refine seq_wp (wn_none rfl) (wp_app (enc := encI) hF hS rfl rfl rfl rfl rfl 5 rfl sl22 inf3 rfl (by decide) (hS.rdRow 0 rfl) encI_one (by decide) (by first | omega | (simp only [List.length_append, List.length_cons, List.length_nil]; omega)) ?_)
              clear hF hS; intro a w v206 hF hS
              obtain ⟨Av206, cv206, rfl⟩ := hS.form 5 rfl
              refine seq_yl hF (wn_none rfl) rfl rfl (yl_fieldAddr hF rfl rfl (fun w => by kernel_rfl : ∀ w, (Instr.fieldAt 27 (.pointer (some ⟨g174, 0, none⟩)) 0).run Try.prog w = .ok (.pointer (some ⟨g174, 0, none⟩)) w)) ?_
              clear hF; intro a hF
              refine seq_wp (wn_none rfl) (wp_store (cs' := #[_, _, _]) hF hS rfl rfl rfl rfl 3 rfl sz22 (by simp [Value.cells, Value.oneCell']) (by simp [Value.cells]) rfl ?_)
              clear hF hS; intro a w hF hS
              refine wpList_nil ?_
              refine inb_n ?_
              refine then_n ?_
              refine c_seq ?_
              refine c_region ?_
              refine seq_yl hF (wn_none rfl) rfl rfl (yl_loadK (rs := [_, _, _]) (fun _ h => h ▸ hS) hF rfl rfl 3 rfl ag27 sz27 rfl rfl) ?_
              clear hF; intro a hF
              refine seq_wp (wn_none rfl) (wp_store (cs' := #[_, _, _]) hF hS rfl rfl rfl rfl 4 rfl sz27 (by simp [Value.cells, Value.oneCell']) (by simp [Value.cells]) rfl ?_)
              clear hF hS; intro a w hF hS
              refine wpList_nil ?_
              refine then_n ?_
              refine wp_ret ?_
              refine ret_c hF rfl (resC hS rfl 4 rfl ag27 sz27) ?_
              exact ⟨_, rfl, _, (E ++ ([(1 : Int), (1 : Int)] : List Int)), _, _, it188, rfl, by first | omega | (simp; done) | (simp; omega), by first | omega | (simp; done) | (simp; omega), by omega, (hS.subT 6 [5, 1, 2] (by decide) (by first | rfl | simp) (by simp) (by simp))⟩
            · first | (replace hc204 := of_decide_eq_false hc204) | (replace hc204 := of_decide_eq_true (bnot_f hc204)) | (subst hc204) | (replace hc204 := bnot_f hc204; subst hc204) | (replace hc204 := bnot_f hc204) | skip
              refine wp_skip ?_
              refine inb_n ?_
              refine then_n ?_
              refine c_seq ?_
              refine c_region ?_
              refine seq_yl hF (wn_none rfl) rfl rfl (yl_loadK (rs := [_, _, _]) (fun _ h => h ▸ hS) hF rfl rfl 2 rfl ag27 sz27 rfl rfl) ?_
              clear hF; intro a hF
              refine seq_wp (wn_none rfl) (wp_store (cs' := #[_, _, _]) hF hS rfl rfl rfl rfl 3 rfl sz27 (by simp [Value.cells, Value.oneCell']) (by simp [Value.cells]) rfl ?_)
              clear hF hS; intro a w hF hS
              refine wpList_nil ?_
              refine then_n ?_
              refine wp_ret ?_
              refine ret_c hF rfl (resC hS rfl 3 rfl ag27 sz27) ?_
              exact ⟨_, rfl, _, E, _, _, it188, rfl, by first | omega | (simp; done) | (simp; omega), by first | omega | (simp; done) | (simp; omega), by omega, (hS.subT 5 [4, 0, 1] (by decide) (by first | rfl | simp) (by simp) (by simp))⟩

theorem comp2_any (vv : Value) (L : List Int) (p q : Int) (d n : Int) (w0 : World) (hv : Rd w0 1 vv (L).length (cells encI (L))) (hL : L.length ≤ 1000000) :
    Fn Try.prog 12 #[.agg #[vv, .int .i64 p, .int .i64 q], .int .i64 d, .int .i64 n] w0 (fun v w' => ∃ v1, v = .tuple #[.agg #[v1, .int .i64 p, .int .i64 (stF L p q d n).2], .int .i64 (errF L p q d n)] ∧ (Sat w0 w' [.row 3 1 v1 ((stF L p q d n).1).length (cells encI ((stF L p q d n).1))] ∨ (v1 = vv ∧ stF L p q d n = (L, q) ∧ Sat w0 w' []))) := by
  obtain ⟨Avv, cvv, rfl⟩ := Rd.form hv
  refine c_enter (N := 82) (l := [_, _, _]) Try.func12 rfl rfl (fun a w hF hS => ?_)
  replace hS := hS.addRo hv
  refine c_seq ?_
  refine c_region ?_
  refine seq_wp (wn_none rfl) (wp_box (cs := #[_, _, _]) hF hS rfl rfl rfl rfl rfl ?_)
  clear hF hS; intro a w g207 hF hS
  refine seq_wp (wn_none rfl) (wp_alloc (cs := #[_, _, _]) hF hS rfl rfl rfl zr27 rfl ?_)
  clear hF hS; intro a w g208 hF hS
  refine seq_yl hF (wn_none rfl) rfl rfl (yl_assign hF rfl rfl) ?_
  clear hF; intro a hF
  refine wpList_nil ?_
  refine then_n ?_
  refine c_seq ?_
  refine c_seq ?_
  refine c_region ?_
  refine seq_yl hF (wn_none rfl) rfl rfl (yl_loadK (rs := [_, _, _]) (fun _ h => h ▸ hS) hF rfl rfl 1 rfl ag27 sz27 rfl rfl) ?_
  clear hF; intro a hF
  refine seq_wp (wn_none rfl) (wp_call (vs := [_]) hF rfl rfl rfl rfl cf15 (check2_any _ L (p) (q) _ (hS.rdRo 2 rfl) (by first | omega | (simp; done) | (simp; omega) | (rw [stF_len]; first | omega | (simp; done) | (simp; omega)))) ?_)
  clear hF; rintro _ w ⟨rfl, hS1⟩ a hF
  replace hS := hS.callB hS1 rfl; clear hS1
  refine seq_yl hF (wn_none rfl) rfl rfl (yl_un hF rfl rfl (fun _ => run_not)) ?_
  clear hF; intro a hF
  refine wpList_nil ?_
  refine then_n ?_
  refine c_cond hF rfl (fun hc209 => ?_) (fun hc209 => ?_)
  · first | (replace hc209 := of_decide_eq_true hc209) | (replace hc209 := of_decide_eq_false (bnot_t hc209)) | (subst hc209) | (replace hc209 := bnot_t hc209; subst hc209) | (replace hc209 := bnot_t hc209) | skip
    refine c_seq ?_
    refine c_region ?_
    refine seq_yl hF (wn_none rfl) rfl rfl (yl_loadK (rs := [_, _, _]) (fun _ h => h ▸ hS) hF rfl rfl 1 rfl ag27 sz27 rfl rfl) ?_
    clear hF; intro a hF
    refine seq_wp (wn_none rfl) (wp_store (cs' := #[_, _, _]) hF hS rfl rfl rfl rfl 0 rfl sz27 (by simp [Value.cells, Value.oneCell']) (by simp [Value.cells]) rfl ?_)
    clear hF hS; intro a w hF hS
    refine seq_yl hF (wn_none rfl) rfl rfl (yl_assign hF rfl rfl) ?_
    clear hF; intro a hF
    refine wpList_nil ?_
    refine then_n ?_
    refine wp_ret ?_
    refine then_r ?_
    refine ret_ct hF rfl (resC hS rfl 0 rfl ag27 sz27) rfl ?_
    obtain ⟨hs1, hs2⟩ := st_1 (d := d) (n := n) (by assumption : chkF L p q = false)
    rw [hs1, hs2]
    exact ⟨_, rfl, _, rfl, .inr ⟨rfl, rfl, (hS.sub [] (by decide) (by first | rfl | simp) (by simp))⟩⟩
  · first | (replace hc209 := of_decide_eq_false hc209) | (replace hc209 := of_decide_eq_true (bnot_f hc209)) | (subst hc209) | (replace hc209 := bnot_f hc209; subst hc209) | (replace hc209 := bnot_f hc209) | skip
    refine wp_skip ?_
    refine then_n ?_
    refine c_seq ?_
    refine c_seq ?_
    refine c_region ?_
    refine seq_yl hF (wn_none rfl) rfl rfl (yl_move hF rfl rfl) ?_
    clear hF; intro a hF
    refine seq_yl hF (wn_none rfl) rfl rfl (yl_bin hF rfl rfl rfl rfl (fun _ => run_lss)) ?_
    clear hF; intro a hF
    refine seq_yl hF (wn_none rfl) rfl rfl (yl_move hF rfl rfl) ?_
    clear hF; intro a hF
    refine fr_split hF (fun hc210 hF => ?_) (fun hc210 hF => ?_)
    · first | (replace hc210 := of_decide_eq_true hc210) | (replace hc210 := of_decide_eq_false (bnot_t hc210)) | (subst hc210) | (replace hc210 := bnot_t hc210; subst hc210) | (replace hc210 := bnot_t hc210) | skip
      refine seq_skip hF (wn_f hF rfl rfl rfl rfl) rfl rfl ?_
      clear hF; intro a hF
      refine seq_skip hF (wn_f hF rfl rfl rfl rfl) rfl rfl ?_
      clear hF; intro a hF
      refine seq_skip hF (wn_f hF rfl rfl rfl rfl) rfl rfl ?_
      clear hF; intro a hF
      refine seq_skip hF (wn_f hF rfl rfl rfl rfl) rfl rfl ?_
      clear hF; intro a hF
      refine seq_skip hF (wn_f hF rfl rfl rfl rfl) rfl rfl ?_
      clear hF; intro a hF
      refine seq_yl hF (wn_none rfl) rfl rfl (yl_pick (u := _) (v := undef) hF rfl rfl (fun _ => rfl) (fun h => by cases h)) ?_
      clear hF; intro a hF
      refine seq_yl hF (wn_none rfl) rfl rfl (yl_move hF rfl rfl) ?_
      clear hF; intro a hF
      refine seq_skip hF (wn_f hF rfl rfl rfl rfl) rfl rfl ?_
      clear hF; intro a hF
      refine seq_skip hF (wn_f hF rfl rfl rfl rfl) rfl rfl ?_
      clear hF; intro a hF
      refine seq_yl hF (wn_none rfl) rfl rfl (yl_pick (u := _) (v := undef) hF rfl rfl (fun _ => rfl) (fun h => by cases h)) ?_
      clear hF; intro a hF
      refine seq_yl hF (wn_none rfl) rfl rfl (yl_move hF rfl rfl) ?_
      clear hF; intro a hF
      refine seq_skip hF (wn_f hF rfl rfl rfl rfl) rfl rfl ?_
      clear hF; intro a hF
      refine seq_skip hF (wn_f hF rfl rfl rfl rfl) rfl rfl ?_
      clear hF; intro a hF
      refine seq_yl hF (wn_none rfl) rfl rfl (yl_pick (u := _) (v := undef) hF rfl rfl (fun _ => rfl) (fun h => by cases h)) ?_
      clear hF; intro a hF
      refine wpList_nil ?_
      refine then_n ?_
      refine c_cond_t hF rfl ?_
      refine c_seq ?_
      refine c_region ?_
      refine seq_yl hF (wn_none rfl) rfl rfl (yl_loadK (rs := [_, _, _]) (fun _ h => h ▸ hS) hF rfl rfl 1 rfl ag27 sz27 rfl rfl) ?_
      clear hF; intro a hF
      refine seq_wp (wn_none rfl) (wp_store (cs' := #[_, _, _]) hF hS rfl rfl rfl rfl 0 rfl sz27 (by simp [Value.cells, Value.oneCell']) (by simp [Value.cells]) rfl ?_)
      clear hF hS; intro a w hF hS
      refine seq_yl hF (wn_none rfl) rfl rfl (yl_assign hF rfl rfl) ?_
      clear hF; intro a hF
      refine wpList_nil ?_
      refine then_n ?_
      refine wp_ret ?_
      refine then_r ?_
      refine ret_ct hF rfl (resC hS rfl 0 rfl ag27 sz27) rfl ?_
      obtain ⟨hs1, hs2⟩ := st_2 (d := d) (n := n) (by assumption : chkF L p q = true) (by omega)
      rw [hs1, hs2]
      exact ⟨_, rfl, _, rfl, .inr ⟨rfl, rfl, (hS.sub [] (by decide) (by first | rfl | simp) (by simp))⟩⟩
    · first | (replace hc210 := of_decide_eq_false hc210) | (replace hc210 := of_decide_eq_true (bnot_f hc210)) | (subst hc210) | (replace hc210 := bnot_f hc210; subst hc210) | (replace hc210 := bnot_f hc210) | skip
      refine seq_yl hF (wn_t hF rfl rfl rfl rfl) rfl rfl (yl_move hF rfl rfl) ?_
      clear hF; intro a hF
      refine seq_yl hF (wn_t hF rfl rfl rfl rfl) rfl rfl (yl_fieldAddr hF rfl rfl (fun w => by kernel_rfl : ∀ w, (Instr.fieldAt 27 (.pointer (some ⟨g207, 0, none⟩)) 0).run Try.prog w = .ok (.pointer (some ⟨g207, 0, none⟩)) w)) ?_
      clear hF; intro a hF
      refine seq_yl hF (wn_t hF rfl rfl rfl rfl) rfl rfl (yl_load (fun _ h => h ▸ hS) hF rfl rfl 1 rfl ag22 rfl) ?_
      clear hF; intro a hF
      refine seq_yl hF (wn_t hF rfl rfl rfl rfl) rfl rfl (yl_len hF rfl rfl (fun _ => run_lenRd sl22 (hS.rdRo 2 rfl))) ?_
      clear hF; intro a hF
      refine seq_yl hF (wn_t hF rfl rfl rfl rfl) rfl rfl (yl_bin hF rfl rfl rfl rfl (fun _ => run_geq)) ?_
      clear hF; intro a hF
      refine seq_yl hF (wn_none rfl) rfl rfl (yl_pick (u := _) (v := undef) hF rfl rfl (fun h => by cases h) (fun _ => rfl)) ?_
      clear hF; intro a hF
      refine seq_yl hF (wn_none rfl) rfl rfl (yl_move hF rfl rfl) ?_
      clear hF; intro a hF
      refine fr_split hF (fun hc211 hF => ?_) (fun hc211 hF => ?_)
      · first | (replace hc211 := of_decide_eq_true hc211) | (replace hc211 := of_decide_eq_false (bnot_t hc211)) | (subst hc211) | (replace hc211 := bnot_t hc211; subst hc211) | (replace hc211 := bnot_t hc211) | skip
        refine seq_skip hF (wn_f hF rfl rfl rfl rfl) rfl rfl ?_
        clear hF; intro a hF
        refine seq_skip hF (wn_f hF rfl rfl rfl rfl) rfl rfl ?_
        clear hF; intro a hF
        refine seq_yl hF (wn_none rfl) rfl rfl (yl_pick (u := _) (v := undef) hF rfl rfl (fun _ => rfl) (fun h => by cases h)) ?_
        clear hF; intro a hF
        refine seq_yl hF (wn_none rfl) rfl rfl (yl_move hF rfl rfl) ?_
        clear hF; intro a hF
        refine seq_skip hF (wn_f hF rfl rfl rfl rfl) rfl rfl ?_
        clear hF; intro a hF
        refine seq_skip hF (wn_f hF rfl rfl rfl rfl) rfl rfl ?_
        clear hF; intro a hF
        refine seq_yl hF (wn_none rfl) rfl rfl (yl_pick (u := _) (v := undef) hF rfl rfl (fun _ => rfl) (fun h => by cases h)) ?_
        clear hF; intro a hF
        refine wpList_nil ?_
        refine then_n ?_
        refine c_cond_t hF rfl ?_
        refine c_seq ?_
        refine c_region ?_
        refine seq_yl hF (wn_none rfl) rfl rfl (yl_loadK (rs := [_, _, _]) (fun _ h => h ▸ hS) hF rfl rfl 1 rfl ag27 sz27 rfl rfl) ?_
        clear hF; intro a hF
        refine seq_wp (wn_none rfl) (wp_store (cs' := #[_, _, _]) hF hS rfl rfl rfl rfl 0 rfl sz27 (by simp [Value.cells, Value.oneCell']) (by simp [Value.cells]) rfl ?_)
        clear hF hS; intro a w hF hS
        refine seq_yl hF (wn_none rfl) rfl rfl (yl_assign hF rfl rfl) ?_
        clear hF; intro a hF
        refine wpList_nil ?_
        refine then_n ?_
        refine wp_ret ?_
        refine then_r ?_
        refine ret_ct hF rfl (resC hS rfl 0 rfl ag27 sz27) rfl ?_
        obtain ⟨hs1, hs2⟩ := st_2 (d := d) (n := n) (by assumption : chkF L p q = true) (by omega)
        rw [hs1, hs2]
        exact ⟨_, rfl, _, rfl, .inr ⟨rfl, rfl, (hS.sub [] (by decide) (by first | rfl | simp) (by simp))⟩⟩
      · first | (replace hc211 := of_decide_eq_false hc211) | (replace hc211 := of_decide_eq_true (bnot_f hc211)) | (subst hc211) | (replace hc211 := bnot_f hc211; subst hc211) | (replace hc211 := bnot_f hc211) | skip
        refine seq_yl hF (wn_t hF rfl rfl rfl rfl) rfl rfl (yl_move hF rfl rfl) ?_
        clear hF; intro a hF
        refine seq_yl hF (wn_t hF rfl rfl rfl rfl) rfl rfl (yl_bin hF rfl rfl rfl rfl (fun _ => run_lss)) ?_
        clear hF; intro a hF
        refine seq_yl hF (wn_none rfl) rfl rfl (yl_pick (u := _) (v := undef) hF rfl rfl (fun h => by cases h) (fun _ => rfl)) ?_
        clear hF; intro a hF
        refine seq_yl hF (wn_none rfl) rfl rfl (yl_move hF rfl rfl) ?_
        clear hF; intro a hF
        refine fr_split hF (fun hc212 hF => ?_) (fun hc212 hF => ?_)
        · first | (replace hc212 := of_decide_eq_true hc212) | (replace hc212 := of_decide_eq_false (bnot_t hc212)) | (subst hc212) | (replace hc212 := bnot_t hc212; subst hc212) | (replace hc212 := bnot_t hc212) | skip
          refine seq_skip hF (wn_f hF rfl rfl rfl rfl) rfl rfl ?_
          clear hF; intro a hF
          refine seq_skip hF (wn_f hF rfl rfl rfl rfl) rfl rfl ?_
          clear hF; intro a hF
          refine seq_yl hF (wn_none rfl) rfl rfl (yl_pick (u := _) (v := undef) hF rfl rfl (fun _ => rfl) (fun h => by cases h)) ?_
          clear hF; intro a hF
          refine wpList_nil ?_
          refine then_n ?_
          refine c_cond_t hF rfl ?_
          refine c_seq ?_
          refine c_region ?_
          refine seq_yl hF (wn_none rfl) rfl rfl (yl_loadK (rs := [_, _, _]) (fun _ h => h ▸ hS) hF rfl rfl 1 rfl ag27 sz27 rfl rfl) ?_
          clear hF; intro a hF
          refine seq_wp (wn_none rfl) (wp_store (cs' := #[_, _, _]) hF hS rfl rfl rfl rfl 0 rfl sz27 (by simp [Value.cells, Value.oneCell']) (by simp [Value.cells]) rfl ?_)
          clear hF hS; intro a w hF hS
          refine seq_yl hF (wn_none rfl) rfl rfl (yl_assign hF rfl rfl) ?_
          clear hF; intro a hF
          refine wpList_nil ?_
          refine then_n ?_
          refine wp_ret ?_
          refine then_r ?_
          refine ret_ct hF rfl (resC hS rfl 0 rfl ag27 sz27) rfl ?_
          obtain ⟨hs1, hs2⟩ := st_2 (d := d) (n := n) (by assumption : chkF L p q = true) (by omega)
          rw [hs1, hs2]
          exact ⟨_, rfl, _, rfl, .inr ⟨rfl, rfl, (hS.sub [] (by decide) (by first | rfl | simp) (by simp))⟩⟩
        · first | (replace hc212 := of_decide_eq_false hc212) | (replace hc212 := of_decide_eq_true (bnot_f hc212)) | (subst hc212) | (replace hc212 := bnot_f hc212; subst hc212) | (replace hc212 := bnot_f hc212) | skip
          refine seq_yl hF (wn_t hF rfl rfl rfl rfl) rfl rfl (yl_move hF rfl rfl) ?_
          clear hF; intro a hF
          refine seq_yl hF (wn_t hF rfl rfl rfl rfl) rfl rfl (yl_bin hF rfl rfl rfl rfl (fun _ => run_gtr)) ?_
          clear hF; intro a hF
          refine seq_yl hF (wn_none rfl) rfl rfl (yl_pick (u := _) (v := undef) hF rfl rfl (fun h => by cases h) (fun _ => rfl)) ?_
          clear hF; intro a hF
          refine wpList_nil ?_
          refine then_n ?_
          refine c_cond hF rfl (fun hc213 => ?_) (fun hc213 => ?_)
          · first | (replace hc213 := of_decide_eq_true hc213) | (replace hc213 := of_decide_eq_false (bnot_t hc213)) | (subst hc213) | (replace hc213 := bnot_t hc213; subst hc213) | (replace hc213 := bnot_t hc213) | skip
            refine c_seq ?_
            refine c_region ?_
            refine seq_yl hF (wn_none rfl) rfl rfl (yl_loadK (rs := [_, _, _]) (fun _ h => h ▸ hS) hF rfl rfl 1 rfl ag27 sz27 rfl rfl) ?_
            clear hF; intro a hF
            refine seq_wp (wn_none rfl) (wp_store (cs' := #[_, _, _]) hF hS rfl rfl rfl rfl 0 rfl sz27 (by simp [Value.cells, Value.oneCell']) (by simp [Value.cells]) rfl ?_)
            clear hF hS; intro a w hF hS
            refine seq_yl hF (wn_none rfl) rfl rfl (yl_assign hF rfl rfl) ?_
            clear hF; intro a hF
            refine wpList_nil ?_
            refine then_n ?_
            refine wp_ret ?_
            refine then_r ?_
            refine ret_ct hF rfl (resC hS rfl 0 rfl ag27 sz27) rfl ?_
            obtain ⟨hs1, hs2⟩ := st_2 (d := d) (n := n) (by assumption : chkF L p q = true) (by omega)
            rw [hs1, hs2]
            exact ⟨_, rfl, _, rfl, .inr ⟨rfl, rfl, (hS.sub [] (by decide) (by first | rfl | simp) (by simp))⟩⟩
          · first | (replace hc213 := of_decide_eq_false hc213) | (replace hc213 := of_decide_eq_true (bnot_f hc213)) | (subst hc213) | (replace hc213 := bnot_f hc213; subst hc213) | (replace hc213 := bnot_f hc213) | skip
            refine wp_skip ?_
            refine then_n ?_
            refine c_seq ?_
            refine ha_startS hS [1] 10 (by kernel_rfl) ?_; clear hS; intro w hS
            have hSS := hS.sub [1] (by decide) rfl (by simp)
            refine ha_yl 0 hF rfl rfl rfl (by kernel_rfl) (by kernel_rfl) (by kernel_rfl) (by decide) (fun _ _ _ h => h) (wn_none rfl) (.inr hSS) (yl_fieldAddr hF rfl rfl (fun w => by kernel_rfl : ∀ w, (Instr.fieldAt 27 (.pointer (some ⟨g207, 0, none⟩)) 0).run Try.prog w = .ok (.pointer (some ⟨g207, 0, none⟩)) w)) ?_
            clear hF; intro a hF
            refine ha_yl 3 hF rfl rfl rfl (by kernel_rfl) (by kernel_rfl) (by kernel_rfl) (by decide) (fun _ _ _ h => h) (wn_none rfl) (.inr hSS) (yl_fieldAddr hF rfl rfl (fun w => by kernel_rfl : ∀ w, (Instr.fieldAt 27 (.pointer (some ⟨g207, 0, none⟩)) 1).run Try.prog w = .ok (.pointer (some ⟨g207, 1, none⟩)) w)) ?_
            clear hF; intro a hF
            refine ha_yl 5 hF rfl rfl rfl (by kernel_rfl) (by kernel_rfl) (by kernel_rfl) (by decide) (fun _ _ _ h => h) (wn_none rfl) (.inr hSS) (yl_fieldAddr hF rfl rfl (fun w => by kernel_rfl : ∀ w, (Instr.fieldAt 27 (.pointer (some ⟨g207, 0, none⟩)) 2).run Try.prog w = .ok (.pointer (some ⟨g207, 2, none⟩)) w)) ?_
            clear hF; intro a hF
            refine ha_ld 1 hF rfl rfl rfl (by kernel_rfl) (by kernel_rfl) (by kernel_rfl) (by decide) (by kernel_rfl) (by kernel_rfl) (fun _ _ _ h => h) (wn_none rfl) hSS (yl_load (fun _ h => h) hF rfl rfl 0 rfl ag22 rfl) ?_
            clear hF; intro a hF
            refine ha_ld 4 hF rfl rfl rfl (by kernel_rfl) (by kernel_rfl) (by kernel_rfl) (by decide) (by kernel_rfl) (by kernel_rfl) (fun _ _ _ h => h) (wn_none rfl) hSS (yl_load (fun _ h => h) hF rfl rfl 0 rfl ag3 rfl) ?_
            clear hF; intro a hF
            refine ha_ld 6 hF rfl rfl rfl (by kernel_rfl) (by kernel_rfl) (by kernel_rfl) (by decide) (by kernel_rfl) (by kernel_rfl) (fun _ _ _ h => h) (wn_none rfl) hSS (yl_load (fun _ h => h) hF rfl rfl 0 rfl ag3 rfl) ?_
            clear hF; intro a hF
            refine ha_all (rs := [2, 8]) (by kernel_rfl) (by simp) ?_
            refine List.forall_mem_cons.2 ⟨?_, List.forall_mem_cons.2 ⟨?_, (fun _ h => by cases h)⟩⟩
            · skip
              refine ha_op 2 rfl (wn_none rfl) (wp_app0 (enc := encI) hF hS rfl rfl rfl rfl rfl sl22 inf3 rfl (by decide) (hS.rdRo 2 rfl) encI_one (by decide) (by first | omega | (simp only [List.length_append, List.length_cons, List.length_nil]; omega)) ?_)
              clear hF hS; intro a w v214 hF hS
              obtain ⟨Av214, cv214, rfl⟩ := hS.form 0 rfl
              replace hSS := hS.sub [2] (by decide) rfl (by simp)
              refine ⟨.inr hSS, ?_⟩
              refine ha_yl 7 hF rfl rfl rfl (by kernel_rfl) (by kernel_rfl) (by kernel_rfl) (by decide) (fun _ _ _ h => h) (wn_none rfl) (.inr hSS) (yl_build (parts := [(0, .tmp 35), (1, .tmp 37), (2, .tmp 39)]) (vs := [(0, _), (1, _), (2, _)]) (cs := [_, _, _]) hF bd27 rfl rfl rfl rfl) ?_
              clear hF; intro a hF
              refine ha_one 8 (by kernel_rfl) rfl (wn_none rfl) (wp_alloc (cs := #[_, _, _]) hF hS rfl rfl rfl zr27 rfl ?_)
              clear hF hS; intro a w g215 hF hS
              replace hSS := hS.sub [3] (by decide) rfl (by simp)
              refine ⟨.inr hSS, ?_⟩
              refine ha_one 9 (by kernel_rfl) rfl (wn_none rfl) (wp_store (cs' := #[_, _, _]) hF hS rfl rfl rfl rfl 0 rfl sz27 (by simp [Value.cells, Value.oneCell']) (by simp [Value.cells]) rfl ?_)
              clear hF hS; intro a w hF hS
              replace hSS := hS.sub [3] (by decide) rfl (by simp)
              refine ⟨.inr hSS, ?_⟩
              refine ha_done (by kernel_rfl) ?_ _
              refine then_n ?_
              refine c_seq ?_
              refine c_seq ?_
              refine c_region ?_
              refine seq_yl hF (wn_none rfl) rfl rfl (yl_assign hF rfl rfl) ?_
              clear hF; intro a hF
              refine wpList_nil ?_
              refine then_n ?_
              refine wp_block ?_
              have hchk : chkF L p q = true := by assumption
              obtain ⟨hCI, hp1, hp2, hl1, hl2⟩ := CI_of hchk
              refine c_loop (fun m a w => ∃ (k : Nat) (E : List Int) (q' : Int), m = n.toNat - k ∧ ((k : Int) ≤ n ∧ crun d.toNat p k (L, q) = (E, q') ∧ E.length = L.length) ∧ Fr 82 a [(1, .int .i64 (d)), (2, .int .i64 (n)), (6, .pointer (some ⟨g208, 0, none⟩)), (8, .pointer (some ⟨g215, 0, none⟩)), (9, .int .i64 ((k : Nat) : Int))] ∧ Sat w0 w (.box g215 27 #[.slice Av214 L.length cv214, .int .i64 (p), .int .i64 (q')] :: .row 3 1 (.slice Av214 L.length cv214) (E).length (cells encI (E)) :: .box g208 27 #[.slice none 0 0, .int .i64 (0 : Int), .int .i64 (0 : Int)] :: [])) (n.toNat - 0) ?_ ?_
              · exact ⟨0, L, q, rfl, ⟨by omega, rfl, rfl⟩, hF.to [1, 2, 6, 8, 9] rfl, (hS.sub [0, 1, 2] (by decide) (by first | rfl | simp) (by simp))⟩
              · clear hF hS; try clear hSS
                clear a w; rintro m a w ⟨k, E, q', rfl, hinv, hF, hS⟩
                have hI := crun_inv (d := d.toNat) hp1 hCI k
                rw [hinv.2.1] at hI
                have hmem := hI.2.1
                have hq1 := hI.2.2.1
                have hq2 := hI.2.2.2
                simp only at hmem hq1 hq2
                have hEl := hinv.2.2
                refine c_seq ?_
                refine c_seq ?_
                refine c_region ?_
                refine seq_yl hF (wn_none rfl) rfl rfl (yl_move hF rfl rfl) ?_
                clear hF; intro a hF
                refine seq_yl hF (wn_none rfl) rfl rfl (yl_move hF rfl rfl) ?_
                clear hF; intro a hF
                refine seq_yl hF (wn_none rfl) rfl rfl (yl_bin hF rfl rfl rfl rfl (fun _ => run_lss)) ?_
                clear hF; intro a hF
                refine wpList_nil ?_
                refine then_n ?_
                refine c_cond hF rfl (fun hc216 => ?_) (fun hc216 => ?_)
                · first | (replace hc216 := of_decide_eq_true hc216) | (replace hc216 := of_decide_eq_false (bnot_t hc216)) | (subst hc216) | (replace hc216 := bnot_t hc216; subst hc216) | (replace hc216 := bnot_t hc216) | skip
                  refine wp_skip ?_
                  refine then_n ?_
                  refine c_seq ?_
                  refine wp_block ?_
                  refine c_seq ?_
                  refine ha_startS hS [0, 1] 11 (by kernel_rfl) ?_; clear hS; intro w hS
                  have hSS := hS.sub [0, 1] (by decide) rfl (by simp)
                  refine ha_yl 0 hF rfl rfl rfl (by kernel_rfl) (by kernel_rfl) (by kernel_rfl) (by decide) (fun _ _ _ h => h) (wn_none rfl) (.inr hSS) (yl_fieldAddr hF rfl rfl (fun w => by kernel_rfl : ∀ w, (Instr.fieldAt 27 (.pointer (some ⟨g215, 0, none⟩)) 0).run Try.prog w = .ok (.pointer (some ⟨g215, 0, none⟩)) w)) ?_
                  clear hF; intro a hF
                  refine ha_yl 2 hF rfl rfl rfl (by kernel_rfl) (by kernel_rfl) (by kernel_rfl) (by decide) (fun _ _ _ h => h) (wn_none rfl) (.inr hSS) (yl_move hF rfl rfl) ?_
                  clear hF; intro a hF
                  replace hF := fr_seti (b' := ((d.toNat : Nat) : Int)) hF (by omega)
                  refine ha_yl 3 hF rfl rfl rfl (by kernel_rfl) (by kernel_rfl) (by kernel_rfl) (by decide) (fun _ _ _ h => h) (wn_none rfl) (.inr hSS) (yl_fieldAddr hF rfl rfl (fun w => by kernel_rfl : ∀ w, (Instr.fieldAt 27 (.pointer (some ⟨g215, 0, none⟩)) 0).run Try.prog w = .ok (.pointer (some ⟨g215, 0, none⟩)) w)) ?_
                  clear hF; intro a hF
                  refine ha_yl 5 hF rfl rfl rfl (by kernel_rfl) (by kernel_rfl) (by kernel_rfl) (by decide) (fun _ _ _ h => h) (wn_none rfl) (.inr hSS) (yl_move hF rfl rfl) ?_
                  clear hF; intro a hF
                  replace hF := fr_seti (b' := ((d.toNat : Nat) : Int)) hF (by omega)
                  refine ha_ld 1 hF rfl rfl rfl (by kernel_rfl) (by kernel_rfl) (by kernel_rfl) (by decide) (by kernel_rfl) (by kernel_rfl) (fun _ _ _ h => h) (wn_none rfl) hSS (yl_load (fun _ h => h) hF rfl rfl 0 rfl ag22 rfl) ?_
                  clear hF; intro a hF
                  refine ha_ld 4 hF rfl rfl rfl (by kernel_rfl) (by kernel_rfl) (by kernel_rfl) (by decide) (by kernel_rfl) (by kernel_rfl) (fun _ _ _ h => h) (wn_none rfl) hSS (yl_load (fun _ h => h) hF rfl rfl 0 rfl ag22 rfl) ?_
                  clear hF; intro a hF
                  have hlt_hx217 : d.toNat < (E).length := by first | omega | (simp; done) | (simp; omega)
                  obtain ⟨ad218, rfl⟩ := rd_some (hS.rdRow 1 rfl) hlt_hx217
                  obtain ⟨x217, hx217⟩ := get_some hlt_hx217
                  have hb_x217 := hmem x217 (List.mem_of_getElem? hx217)
                  refine ha_yl 6 hF rfl rfl rfl (by kernel_rfl) (by kernel_rfl) (by kernel_rfl) (by decide) (fun _ _ _ h => h) (wn_none rfl) (.inr hSS) (yl_indexAddr hF rfl rfl rfl (fun _ => run_idx' sl22 sz3 (hS.rdRow 1 rfl) hlt_hx217)) ?_
                  clear hF; intro a hF
                  refine ha_ld 7 hF rfl rfl rfl (by kernel_rfl) (by kernel_rfl) (by kernel_rfl) (by decide) (by kernel_rfl) (by kernel_rfl) (fun _ _ _ h => h) (wn_none rfl) hSS (yl_loadAt hF rfl rfl ag3 (fun _ h => rd_cell0 (Sat.rdRow h 1 rfl) encI_len hx217 rfl rfl)) ?_
                  clear hF; intro a hF
                  refine ha_yl 8 hF rfl rfl rfl (by kernel_rfl) (by kernel_rfl) (by kernel_rfl) (by decide) (fun _ _ _ h => h) (wn_none rfl) (.inr hSS) (yl_bin hF rfl rfl rfl rfl (fun _ => run_add (by refine ⟨?_, ?_⟩ <;> omega))) ?_
                  clear hF; intro a hF
                  refine ha_yl 9 hF rfl rfl rfl (by kernel_rfl) (by kernel_rfl) (by kernel_rfl) (by decide) (fun _ _ _ h => h) (wn_none rfl) (.inr hSS) (yl_min2 hF rfl rfl rfl) ?_
                  clear hF; intro a hF
                  refine ha_yl 10 hF rfl rfl rfl (by kernel_rfl) (by kernel_rfl) (by kernel_rfl) (by decide) (fun _ _ _ h => h) (wn_none rfl) (.inr hSS) (yl_indexAddr hF rfl rfl rfl (fun _ => run_idx' sl22 sz3 (hS.rdRow 1 rfl) hlt_hx217)) ?_
                  clear hF; intro a hF
                  refine ha_one 11 (by kernel_rfl) rfl (wn_none rfl) (wp_storeAt0 (enc := encI) (z' := ((min (((x217) + (1 : Int))) (1000000 : Int)))) hF hS rfl rfl rfl rfl 1 rfl sz3 (by simp [Value.cells, Value.oneCell']) encI_len hx217 (by simp [Value.cells]) rfl ?_)
                  clear hF hS; intro a w hF hS
                  refine ⟨.inl (by kernel_rfl), ?_⟩
                  refine ha_done (by kernel_rfl) ?_ _
                  refine then_n ?_
                  refine c_seq ?_
                  refine c_region ?_
                  refine seq_yl hF (wn_none rfl) rfl rfl (yl_fieldAddr hF rfl rfl (fun w => by kernel_rfl : ∀ w, (Instr.fieldAt 27 (.pointer (some ⟨g215, 0, none⟩)) 2).run Try.prog w = .ok (.pointer (some ⟨g215, 2, none⟩)) w)) ?_
                  clear hF; intro a hF
                  refine seq_yl hF (wn_none rfl) rfl rfl (yl_load (fun _ h => h ▸ hS) hF rfl rfl 0 rfl ag3 rfl) ?_
                  clear hF; intro a hF
                  refine seq_yl hF (wn_none rfl) rfl rfl (yl_bin hF rfl rfl rfl rfl (fun _ => run_sub (by refine ⟨?_, ?_⟩ <;> omega))) ?_
                  clear hF; intro a hF
                  refine seq_yl hF (wn_none rfl) rfl rfl (yl_fieldAddr hF rfl rfl (fun w => by kernel_rfl : ∀ w, (Instr.fieldAt 27 (.pointer (some ⟨g215, 0, none⟩)) 2).run Try.prog w = .ok (.pointer (some ⟨g215, 2, none⟩)) w)) ?_
                  clear hF; intro a hF
                  refine seq_wp (wn_none rfl) (wp_store (cs' := #[_, _, _]) hF hS rfl rfl rfl rfl 0 rfl sz3 (by simp [Value.cells, Value.oneCell']) (by simp [Value.cells]) rfl ?_)
                  clear hF hS; intro a w hF hS
                  refine wpList_nil ?_
                  refine then_n ?_
                  refine c_seq ?_
                  refine c_region ?_
                  refine seq_yl hF (wn_none rfl) rfl rfl (yl_fieldAddr hF rfl rfl (fun w => by kernel_rfl : ∀ w, (Instr.fieldAt 27 (.pointer (some ⟨g215, 0, none⟩)) 2).run Try.prog w = .ok (.pointer (some ⟨g215, 2, none⟩)) w)) ?_
                  clear hF; intro a hF
                  refine seq_yl hF (wn_none rfl) rfl rfl (yl_load (fun _ h => h ▸ hS) hF rfl rfl 0 rfl ag3 rfl) ?_
                  clear hF; intro a hF
                  refine seq_yl hF (wn_none rfl) rfl rfl (yl_bin hF rfl rfl rfl rfl (fun _ => run_eql)) ?_
                  clear hF; intro a hF
                  refine wpList_nil ?_
                  refine then_n ?_
                  refine c_cond hF rfl (fun hc219 => ?_) (fun hc219 => ?_)
                  · first | (replace hc219 := of_decide_eq_true hc219) | (replace hc219 := of_decide_eq_false (bnot_t hc219)) | (subst hc219) | (replace hc219 := bnot_t hc219; subst hc219) | (replace hc219 := bnot_t hc219) | skip
                    refine c_seq ?_
                    refine c_seq ?_
                    refine c_region ?_
                    refine seq_yl hF (wn_none rfl) rfl rfl (yl_assign hF rfl rfl) ?_
                    clear hF; intro a hF
                    refine wpList_nil ?_
                    refine then_n ?_
                    refine wp_block ?_
                    refine c_loop (fun m a w => ∃ (j : Nat) (F : List Int), m = (E.set d.toNat ((min (((x217) + (1 : Int))) (1000000 : Int)))).length - j ∧ (j ≤ (E.set d.toNat ((min (((x217) + (1 : Int))) (1000000 : Int)))).length ∧ F = half ((E.set d.toNat ((min (((x217) + (1 : Int))) (1000000 : Int)))).take j) ++ (E.set d.toNat ((min (((x217) + (1 : Int))) (1000000 : Int)))).drop j ∧ ∀ e ∈ F, 0 ≤ e ∧ e ≤ 1000000) ∧ Fr 82 a [(1, .int .i64 (d)), (2, .int .i64 (n)), (6, .pointer (some ⟨g208, 0, none⟩)), (8, .pointer (some ⟨g215, 0, none⟩)), (9, .int .i64 ((k : Nat) : Int)), (10, .int .i64 ((j : Nat) : Int))] ∧ Sat w0 w (.box g215 27 #[.slice (some ad218) L.length cv214, .int .i64 (p), .int .i64 (((q') - (1 : Int)))] :: .row 3 1 (.slice (some ad218) L.length cv214) (F).length (cells encI (F)) :: .box g208 27 #[.slice none 0 0, .int .i64 (0 : Int), .int .i64 (0 : Int)] :: [])) ((E.set d.toNat ((min (((x217) + (1 : Int))) (1000000 : Int)))).length - 0) ?_ ?_
                    · exact ⟨0, (E.set d.toNat ((min (((x217) + (1 : Int))) (1000000 : Int)))), rfl, ⟨Nat.zero_le _, by simp [half], set_in hmem _ (by omega)⟩, hF.to [1, 2, 6, 8, 9, 10] rfl, (hS.sub [0, 1, 2] (by decide) (by first | rfl | simp) (by simp))⟩
                    · clear hF hS; try clear hSS
                      clear a w; rintro m a w ⟨j, F, rfl, hinv, hF, hS⟩
                      have hinv2 := hinv
                      clear hinv
                      rename (_ : Int) ≤ n ∧ crun _ _ _ _ = _ ∧ _ => hinv
                      have hmem2 := hinv2.2.2
                      have hFl := half_len hinv2.2.1 hinv2.1
                      have hFs : F.length ≤ 4 := by rw [hFl, List.length_set]; omega
                      refine c_seq ?_
                      refine c_seq ?_
                      refine c_region ?_
                      refine seq_yl hF (wn_none rfl) rfl rfl (yl_move hF rfl rfl) ?_
                      clear hF; intro a hF
                      refine seq_yl hF (wn_none rfl) rfl rfl (yl_fieldAddr hF rfl rfl (fun w => by kernel_rfl : ∀ w, (Instr.fieldAt 27 (.pointer (some ⟨g215, 0, none⟩)) 0).run Try.prog w = .ok (.pointer (some ⟨g215, 0, none⟩)) w)) ?_
                      clear hF; intro a hF
                      refine seq_yl hF (wn_none rfl) rfl rfl (yl_load (fun _ h => h ▸ hS) hF rfl rfl 0 rfl ag22 rfl) ?_
                      clear hF; intro a hF
                      refine seq_yl hF (wn_none rfl) rfl rfl (yl_len hF rfl rfl (fun _ => run_lenRd sl22 (hS.rdRow 1 rfl))) ?_
                      clear hF; intro a hF
                      refine seq_yl hF (wn_none rfl) rfl rfl (yl_bin hF rfl rfl rfl rfl (fun _ => run_lss)) ?_
                      clear hF; intro a hF
                      refine wpList_nil ?_
                      refine then_n ?_
                      refine c_cond hF rfl (fun hc220 => ?_) (fun hc220 => ?_)
                      · first | (replace hc220 := of_decide_eq_true hc220) | (replace hc220 := of_decide_eq_false (bnot_t hc220)) | (subst hc220) | (replace hc220 := bnot_t hc220; subst hc220) | (replace hc220 := bnot_t hc220) | skip
                        refine wp_skip ?_
                        refine then_n ?_
                        refine c_seq ?_
                        refine wp_block ?_
                        refine c_region ?_
                        refine seq_yl hF (wn_none rfl) rfl rfl (yl_fieldAddr hF rfl rfl (fun w => by kernel_rfl : ∀ w, (Instr.fieldAt 27 (.pointer (some ⟨g215, 0, none⟩)) 0).run Try.prog w = .ok (.pointer (some ⟨g215, 0, none⟩)) w)) ?_
                        clear hF; intro a hF
                        refine seq_yl hF (wn_none rfl) rfl rfl (yl_load (fun _ h => h ▸ hS) hF rfl rfl 0 rfl ag22 rfl) ?_
                        clear hF; intro a hF
                        refine seq_yl hF (wn_none rfl) rfl rfl (yl_move hF rfl rfl) ?_
                        clear hF; intro a hF
                        have hlt_hx221 : j < (F).length := by (have := half_len hinv2.2.1 hinv2.1; omega)
                        obtain ⟨x221, hx221⟩ := get_some hlt_hx221
                        have hb_x221 := hmem2 x221 (List.mem_of_getElem? hx221)
                        refine seq_yl hF (wn_none rfl) rfl rfl (yl_indexAddr hF rfl rfl rfl (fun _ => run_idx' sl22 sz3 (hS.rdRow 1 rfl) hlt_hx221)) ?_
                        clear hF; intro a hF
                        refine seq_yl hF (wn_none rfl) rfl rfl (yl_loadAt hF rfl rfl ag3 (fun _ h => rd_cell0 (by subst h; exact hS.rdRow 1 rfl) encI_len hx221 rfl rfl)) ?_
                        clear hF; intro a hF
                        refine seq_yl hF (wn_none rfl) rfl rfl (yl_bin hF rfl rfl rfl rfl (fun _ => run_quoN (by omega) (by omega) (by omega))) ?_
                        clear hF; intro a hF
                        refine seq_yl hF (wn_none rfl) rfl rfl (yl_indexAddr hF rfl rfl rfl (fun _ => run_idx' sl22 sz3 (hS.rdRow 1 rfl) hlt_hx221)) ?_
                        clear hF; intro a hF
                        refine seq_wp (wn_none rfl) (wp_storeAt0 (enc := encI) (z' := (((x221) / (2 : Int)))) hF hS rfl rfl rfl rfl 1 rfl sz3 (by simp [Value.cells, Value.oneCell']) encI_len hx221 (by simp [Value.cells]) rfl ?_)
                        clear hF hS; intro a w hF hS
                        refine wpList_nil ?_
                        refine inb_n ?_
                        refine then_n ?_
                        refine c_region ?_
                        refine seq_yl hF (wn_none rfl) rfl rfl (yl_move hF rfl rfl) ?_
                        clear hF; intro a hF
                        refine seq_yl hF (wn_none rfl) rfl rfl (yl_bin hF rfl rfl rfl rfl (fun _ => run_inc (by omega))) ?_
                        clear hF; intro a hF
                        refine seq_yl hF (wn_none rfl) rfl rfl (yl_assign hF rfl rfl) ?_
                        clear hF; intro a hF
                        refine wpList_nil ?_
                        refine then_n ?_
                        exact ⟨_, (by omega), j + 1, _, rfl, ⟨by omega, half_step hinv2.2.1 hx221 (by omega), set_in hinv2.2.2 _ (by omega)⟩, hF.to [1, 2, 6, 8, 9, 10] rfl, (hS.sub [0, 1, 2] (by decide) (by first | rfl | simp) (by simp))⟩
                      · first | (replace hc220 := of_decide_eq_false hc220) | (replace hc220 := of_decide_eq_true (bnot_f hc220)) | (subst hc220) | (replace hc220 := bnot_f hc220; subst hc220) | (replace hc220 := bnot_f hc220) | skip
                        refine wp_exit ?_
                        refine then_x ?_
                        refine then_x ?_
                        refine inb_x ?_
                        refine then_n ?_
                        refine c_region ?_
                        refine seq_yl hF (wn_none rfl) rfl rfl (yl_fieldAddr hF rfl rfl (fun w => by kernel_rfl : ∀ w, (Instr.fieldAt 27 (.pointer (some ⟨g215, 0, none⟩)) 1).run Try.prog w = .ok (.pointer (some ⟨g215, 1, none⟩)) w)) ?_
                        clear hF; intro a hF
                        refine seq_yl hF (wn_none rfl) rfl rfl (yl_load (fun _ h => h ▸ hS) hF rfl rfl 0 rfl ag3 rfl) ?_
                        clear hF; intro a hF
                        refine seq_yl hF (wn_none rfl) rfl rfl (yl_fieldAddr hF rfl rfl (fun w => by kernel_rfl : ∀ w, (Instr.fieldAt 27 (.pointer (some ⟨g215, 0, none⟩)) 2).run Try.prog w = .ok (.pointer (some ⟨g215, 2, none⟩)) w)) ?_
                        clear hF; intro a hF
                        refine seq_wp (wn_none rfl) (wp_store (cs' := #[_, _, _]) hF hS rfl rfl rfl rfl 0 rfl sz3 (by simp [Value.cells, Value.oneCell']) (by simp [Value.cells]) rfl ?_)
                        clear hF hS; intro a w hF hS
                        refine wpList_nil ?_
                        refine inb_n ?_
                        refine then_n ?_
                        refine c_region ?_
                        refine seq_yl hF (wn_none rfl) rfl rfl (yl_move hF rfl rfl) ?_
                        clear hF; intro a hF
                        refine seq_yl hF (wn_none rfl) rfl rfl (yl_bin hF rfl rfl rfl rfl (fun _ => run_inc (by omega))) ?_
                        clear hF; intro a hF
                        refine seq_yl hF (wn_none rfl) rfl rfl (yl_assign hF rfl rfl) ?_
                        clear hF; intro a hF
                        refine wpList_nil ?_
                        refine then_n ?_
                        exact ⟨_, (by omega), k + 1, _, _, rfl, ⟨by omega, run_half hinv.2.1 hx217 (by omega) (half_done hinv2.2.1 (by omega)), by have := half_len hinv2.2.1 hinv2.1; rw [List.length_set] at this; omega⟩, hF.to [1, 2, 6, 8, 9] rfl, (hS.sub [0, 1, 2] (by decide) (by first | rfl | simp) (by simp))⟩
                  · first | (replace hc219 := of_decide_eq_false hc219) | (replace hc219 := of_decide_eq_true (bnot_f hc219)) | (subst hc219) | (replace hc219 := bnot_f hc219; subst hc219) | (replace hc219 := bnot_f hc219) | skip
                    refine wp_skip ?_
                    refine inb_n ?_
                    refine then_n ?_
                    refine c_region ?_
                    refine seq_yl hF (wn_none rfl) rfl rfl (yl_move hF rfl rfl) ?_
                    clear hF; intro a hF
                    refine seq_yl hF (wn_none rfl) rfl rfl (yl_bin hF rfl rfl rfl rfl (fun _ => run_inc (by omega))) ?_
                    clear hF; intro a hF
                    refine seq_yl hF (wn_none rfl) rfl rfl (yl_assign hF rfl rfl) ?_
                    clear hF; intro a hF
                    refine wpList_nil ?_
                    refine then_n ?_
                    exact ⟨_, (by omega), k + 1, _, _, rfl, ⟨by omega, run_no hinv.2.1 hx217 (by omega), by rw [List.length_set]; exact hEl⟩, hF.to [1, 2, 6, 8, 9] rfl, (hS.sub [0, 1, 2] (by decide) (by first | rfl | simp) (by simp))⟩
                · first | (replace hc216 := of_decide_eq_false hc216) | (replace hc216 := of_decide_eq_true (bnot_f hc216)) | (subst hc216) | (replace hc216 := bnot_f hc216; subst hc216) | (replace hc216 := bnot_f hc216) | skip
                  refine wp_exit ?_
                  refine then_x ?_
                  refine then_x ?_
                  refine inb_x ?_
                  refine then_n ?_
                  refine c_seq ?_
                  refine c_region ?_
                  refine seq_yl hF (wn_none rfl) rfl rfl (yl_loadK (rs := [_, _, _]) (fun _ h => h ▸ hS) hF rfl rfl 0 rfl ag27 sz27 rfl rfl) ?_
                  clear hF; intro a hF
                  refine seq_wp (wn_none rfl) (wp_store (cs' := #[_, _, _]) hF hS rfl rfl rfl rfl 2 rfl sz27 (by simp [Value.cells, Value.oneCell']) (by simp [Value.cells]) rfl ?_)
                  clear hF hS; intro a w hF hS
                  refine seq_yl hF (wn_none rfl) rfl rfl (yl_assign hF rfl rfl) ?_
                  clear hF; intro a hF
                  refine wpList_nil ?_
                  refine then_n ?_
                  refine wp_ret ?_
                  refine ret_ct hF rfl (resC hS rfl 2 rfl ag27 sz27) rfl ?_
                  obtain ⟨hs1, hs2⟩ := st_0 (n := n) hchk (by omega) (by omega) hinv.2.1
                  rw [hs1, hs2]
                  exact ⟨_, rfl, _, rfl, .inl (hS.sub [1] (by decide) (by first | rfl | simp) (by simp))⟩
            · skip
              refine ha_op 8 rfl (wn_none rfl) (wp_alloc (cs := #[_, _, _]) hF hS rfl rfl rfl zr27 rfl ?_)
              clear hF hS; intro a w g222 hF hS
              replace hSS := hS.sub [2] (by decide) rfl (by simp)
              refine ⟨.inr hSS, ?_⟩
              refine ha_one 2 (by kernel_rfl) rfl (wn_none rfl) (wp_app0 (enc := encI) hF hS rfl rfl rfl rfl rfl sl22 inf3 rfl (by decide) (hS.rdRo 3 rfl) encI_one (by decide) (by first | omega | (simp only [List.length_append, List.length_cons, List.length_nil]; omega)) ?_)
              clear hF hS; intro a w v223 hF hS
              obtain ⟨Av223, cv223, rfl⟩ := hS.form 0 rfl
              replace hSS := hS.sub [3] (by decide) rfl (by simp)
              refine ⟨.inr hSS, ?_⟩
              refine ha_yl 7 hF rfl rfl rfl (by kernel_rfl) (by kernel_rfl) (by kernel_rfl) (by decide) (fun _ _ _ h => h) (wn_none rfl) (.inr hSS) (yl_build (parts := [(0, .tmp 35), (1, .tmp 37), (2, .tmp 39)]) (vs := [(0, _), (1, _), (2, _)]) (cs := [_, _, _]) hF bd27 rfl rfl rfl rfl) ?_
              clear hF; intro a hF
              refine ha_one 9 (by kernel_rfl) rfl (wn_none rfl) (wp_store (cs' := #[_, _, _]) hF hS rfl rfl rfl rfl 1 rfl sz27 (by simp [Value.cells, Value.oneCell']) (by simp [Value.cells]) rfl ?_)
              clear hF hS; intro a w hF hS
              replace hSS := hS.sub [3] (by decide) rfl (by simp)
              refine ⟨.inr hSS, ?_⟩
              refine ha_done (by kernel_rfl) ?_ _
              refine then_n ?_
              refine c_seq ?_
              refine c_seq ?_
              refine c_region ?_
              refine seq_yl hF (wn_none rfl) rfl rfl (yl_assign hF rfl rfl) ?_
              clear hF; intro a hF
              refine wpList_nil ?_
              refine then_n ?_
              refine wp_block ?_
              have hchk : chkF L p q = true := by assumption
              obtain ⟨hCI, hp1, hp2, hl1, hl2⟩ := CI_of hchk
              refine c_loop (fun m a w => ∃ (k : Nat) (E : List Int) (q' : Int), m = n.toNat - k ∧ ((k : Int) ≤ n ∧ crun d.toNat p k (L, q) = (E, q') ∧ E.length = L.length) ∧ Fr 82 a [(1, .int .i64 (d)), (2, .int .i64 (n)), (6, .pointer (some ⟨g208, 0, none⟩)), (8, .pointer (some ⟨g222, 0, none⟩)), (9, .int .i64 ((k : Nat) : Int))] ∧ Sat w0 w (.box g222 27 #[.slice Av223 L.length cv223, .int .i64 (p), .int .i64 (q')] :: .row 3 1 (.slice Av223 L.length cv223) (E).length (cells encI (E)) :: .box g208 27 #[.slice none 0 0, .int .i64 (0 : Int), .int .i64 (0 : Int)] :: [])) (n.toNat - 0) ?_ ?_
              · exact ⟨0, L, q, rfl, ⟨by omega, rfl, rfl⟩, hF.to [1, 2, 6, 8, 9] rfl, (hS.sub [1, 0, 2] (by decide) (by first | rfl | simp) (by simp))⟩
              · clear hF hS; try clear hSS
                clear a w; rintro m a w ⟨k, E, q', rfl, hinv, hF, hS⟩
                have hI := crun_inv (d := d.toNat) hp1 hCI k
                rw [hinv.2.1] at hI
                have hmem := hI.2.1
                have hq1 := hI.2.2.1
                have hq2 := hI.2.2.2
                simp only at hmem hq1 hq2
                have hEl := hinv.2.2
                refine c_seq ?_
                refine c_seq ?_
                refine c_region ?_
                refine seq_yl hF (wn_none rfl) rfl rfl (yl_move hF rfl rfl) ?_
                clear hF; intro a hF
                refine seq_yl hF (wn_none rfl) rfl rfl (yl_move hF rfl rfl) ?_
                clear hF; intro a hF
                refine seq_yl hF (wn_none rfl) rfl rfl (yl_bin hF rfl rfl rfl rfl (fun _ => run_lss)) ?_
                clear hF; intro a hF
                refine wpList_nil ?_
                refine then_n ?_
                refine c_cond hF rfl (fun hc224 => ?_) (fun hc224 => ?_)
                · first | (replace hc224 := of_decide_eq_true hc224) | (replace hc224 := of_decide_eq_false (bnot_t hc224)) | (subst hc224) | (replace hc224 := bnot_t hc224; subst hc224) | (replace hc224 := bnot_t hc224) | skip
                  refine wp_skip ?_
                  refine then_n ?_
                  refine c_seq ?_
                  refine wp_block ?_
                  refine c_seq ?_
                  refine ha_startS hS [0, 1] 11 (by kernel_rfl) ?_; clear hS; intro w hS
                  have hSS := hS.sub [0, 1] (by decide) rfl (by simp)
                  refine ha_yl 0 hF rfl rfl rfl (by kernel_rfl) (by kernel_rfl) (by kernel_rfl) (by decide) (fun _ _ _ h => h) (wn_none rfl) (.inr hSS) (yl_fieldAddr hF rfl rfl (fun w => by kernel_rfl : ∀ w, (Instr.fieldAt 27 (.pointer (some ⟨g222, 0, none⟩)) 0).run Try.prog w = .ok (.pointer (some ⟨g222, 0, none⟩)) w)) ?_
                  clear hF; intro a hF
                  refine ha_yl 2 hF rfl rfl rfl (by kernel_rfl) (by kernel_rfl) (by kernel_rfl) (by decide) (fun _ _ _ h => h) (wn_none rfl) (.inr hSS) (yl_move hF rfl rfl) ?_
                  clear hF; intro a hF
                  replace hF := fr_seti (b' := ((d.toNat : Nat) : Int)) hF (by omega)
                  refine ha_yl 3 hF rfl rfl rfl (by kernel_rfl) (by kernel_rfl) (by kernel_rfl) (by decide) (fun _ _ _ h => h) (wn_none rfl) (.inr hSS) (yl_fieldAddr hF rfl rfl (fun w => by kernel_rfl : ∀ w, (Instr.fieldAt 27 (.pointer (some ⟨g222, 0, none⟩)) 0).run Try.prog w = .ok (.pointer (some ⟨g222, 0, none⟩)) w)) ?_
                  clear hF; intro a hF
                  refine ha_yl 5 hF rfl rfl rfl (by kernel_rfl) (by kernel_rfl) (by kernel_rfl) (by decide) (fun _ _ _ h => h) (wn_none rfl) (.inr hSS) (yl_move hF rfl rfl) ?_
                  clear hF; intro a hF
                  replace hF := fr_seti (b' := ((d.toNat : Nat) : Int)) hF (by omega)
                  refine ha_ld 1 hF rfl rfl rfl (by kernel_rfl) (by kernel_rfl) (by kernel_rfl) (by decide) (by kernel_rfl) (by kernel_rfl) (fun _ _ _ h => h) (wn_none rfl) hSS (yl_load (fun _ h => h) hF rfl rfl 0 rfl ag22 rfl) ?_
                  clear hF; intro a hF
                  refine ha_ld 4 hF rfl rfl rfl (by kernel_rfl) (by kernel_rfl) (by kernel_rfl) (by decide) (by kernel_rfl) (by kernel_rfl) (fun _ _ _ h => h) (wn_none rfl) hSS (yl_load (fun _ h => h) hF rfl rfl 0 rfl ag22 rfl) ?_
                  clear hF; intro a hF
                  have hlt_hx225 : d.toNat < (E).length := by first | omega | (simp; done) | (simp; omega)
                  obtain ⟨ad226, rfl⟩ := rd_some (hS.rdRow 1 rfl) hlt_hx225
                  obtain ⟨x225, hx225⟩ := get_some hlt_hx225
                  have hb_x225 := hmem x225 (List.mem_of_getElem? hx225)
                  refine ha_yl 6 hF rfl rfl rfl (by kernel_rfl) (by kernel_rfl) (by kernel_rfl) (by decide) (fun _ _ _ h => h) (wn_none rfl) (.inr hSS) (yl_indexAddr hF rfl rfl rfl (fun _ => run_idx' sl22 sz3 (hS.rdRow 1 rfl) hlt_hx225)) ?_
                  clear hF; intro a hF
                  refine ha_ld 7 hF rfl rfl rfl (by kernel_rfl) (by kernel_rfl) (by kernel_rfl) (by decide) (by kernel_rfl) (by kernel_rfl) (fun _ _ _ h => h) (wn_none rfl) hSS (yl_loadAt hF rfl rfl ag3 (fun _ h => rd_cell0 (Sat.rdRow h 1 rfl) encI_len hx225 rfl rfl)) ?_
                  clear hF; intro a hF
                  refine ha_yl 8 hF rfl rfl rfl (by kernel_rfl) (by kernel_rfl) (by kernel_rfl) (by decide) (fun _ _ _ h => h) (wn_none rfl) (.inr hSS) (yl_bin hF rfl rfl rfl rfl (fun _ => run_add (by refine ⟨?_, ?_⟩ <;> omega))) ?_
                  clear hF; intro a hF
                  refine ha_yl 9 hF rfl rfl rfl (by kernel_rfl) (by kernel_rfl) (by kernel_rfl) (by decide) (fun _ _ _ h => h) (wn_none rfl) (.inr hSS) (yl_min2 hF rfl rfl rfl) ?_
                  clear hF; intro a hF
                  refine ha_yl 10 hF rfl rfl rfl (by kernel_rfl) (by kernel_rfl) (by kernel_rfl) (by decide) (fun _ _ _ h => h) (wn_none rfl) (.inr hSS) (yl_indexAddr hF rfl rfl rfl (fun _ => run_idx' sl22 sz3 (hS.rdRow 1 rfl) hlt_hx225)) ?_
                  clear hF; intro a hF
                  refine ha_one 11 (by kernel_rfl) rfl (wn_none rfl) (wp_storeAt0 (enc := encI) (z' := ((min (((x225) + (1 : Int))) (1000000 : Int)))) hF hS rfl rfl rfl rfl 1 rfl sz3 (by simp [Value.cells, Value.oneCell']) encI_len hx225 (by simp [Value.cells]) rfl ?_)
                  clear hF hS; intro a w hF hS
                  refine ⟨.inl (by kernel_rfl), ?_⟩
                  refine ha_done (by kernel_rfl) ?_ _
                  refine then_n ?_
                  refine c_seq ?_
                  refine c_region ?_
                  refine seq_yl hF (wn_none rfl) rfl rfl (yl_fieldAddr hF rfl rfl (fun w => by kernel_rfl : ∀ w, (Instr.fieldAt 27 (.pointer (some ⟨g222, 0, none⟩)) 2).run Try.prog w = .ok (.pointer (some ⟨g222, 2, none⟩)) w)) ?_
                  clear hF; intro a hF
                  refine seq_yl hF (wn_none rfl) rfl rfl (yl_load (fun _ h => h ▸ hS) hF rfl rfl 0 rfl ag3 rfl) ?_
                  clear hF; intro a hF
                  refine seq_yl hF (wn_none rfl) rfl rfl (yl_bin hF rfl rfl rfl rfl (fun _ => run_sub (by refine ⟨?_, ?_⟩ <;> omega))) ?_
                  clear hF; intro a hF
                  refine seq_yl hF (wn_none rfl) rfl rfl (yl_fieldAddr hF rfl rfl (fun w => by kernel_rfl : ∀ w, (Instr.fieldAt 27 (.pointer (some ⟨g222, 0, none⟩)) 2).run Try.prog w = .ok (.pointer (some ⟨g222, 2, none⟩)) w)) ?_
                  clear hF; intro a hF
                  refine seq_wp (wn_none rfl) (wp_store (cs' := #[_, _, _]) hF hS rfl rfl rfl rfl 0 rfl sz3 (by simp [Value.cells, Value.oneCell']) (by simp [Value.cells]) rfl ?_)
                  clear hF hS; intro a w hF hS
                  refine wpList_nil ?_
                  refine then_n ?_
                  refine c_seq ?_
                  refine c_region ?_
                  refine seq_yl hF (wn_none rfl) rfl rfl (yl_fieldAddr hF rfl rfl (fun w => by kernel_rfl : ∀ w, (Instr.fieldAt 27 (.pointer (some ⟨g222, 0, none⟩)) 2).run Try.prog w = .ok (.pointer (some ⟨g222, 2, none⟩)) w)) ?_
                  clear hF; intro a hF
                  refine seq_yl hF (wn_none rfl) rfl rfl (yl_load (fun _ h => h ▸ hS) hF rfl rfl 0 rfl ag3 rfl) ?_
                  clear hF; intro a hF
                  refine seq_yl hF (wn_none rfl) rfl rfl (yl_bin hF rfl rfl rfl rfl (fun _ => run_eql)) ?_
                  clear hF; intro a hF
                  refine wpList_nil ?_
                  refine then_n ?_
                  refine c_cond hF rfl (fun hc227 => ?_) (fun hc227 => ?_)
                  · first | (replace hc227 := of_decide_eq_true hc227) | (replace hc227 := of_decide_eq_false (bnot_t hc227)) | (subst hc227) | (replace hc227 := bnot_t hc227; subst hc227) | (replace hc227 := bnot_t hc227) | skip
                    refine c_seq ?_
                    refine c_seq ?_
                    refine c_region ?_
                    refine seq_yl hF (wn_none rfl) rfl rfl (yl_assign hF rfl rfl) ?_
                    clear hF; intro a hF
                    refine wpList_nil ?_
                    refine then_n ?_
                    refine wp_block ?_
                    refine c_loop (fun m a w => ∃ (j : Nat) (F : List Int), m = (E.set d.toNat ((min (((x225) + (1 : Int))) (1000000 : Int)))).length - j ∧ (j ≤ (E.set d.toNat ((min (((x225) + (1 : Int))) (1000000 : Int)))).length ∧ F = half ((E.set d.toNat ((min (((x225) + (1 : Int))) (1000000 : Int)))).take j) ++ (E.set d.toNat ((min (((x225) + (1 : Int))) (1000000 : Int)))).drop j ∧ ∀ e ∈ F, 0 ≤ e ∧ e ≤ 1000000) ∧ Fr 82 a [(1, .int .i64 (d)), (2, .int .i64 (n)), (6, .pointer (some ⟨g208, 0, none⟩)), (8, .pointer (some ⟨g222, 0, none⟩)), (9, .int .i64 ((k : Nat) : Int)), (10, .int .i64 ((j : Nat) : Int))] ∧ Sat w0 w (.box g222 27 #[.slice (some ad226) L.length cv223, .int .i64 (p), .int .i64 (((q') - (1 : Int)))] :: .row 3 1 (.slice (some ad226) L.length cv223) (F).length (cells encI (F)) :: .box g208 27 #[.slice none 0 0, .int .i64 (0 : Int), .int .i64 (0 : Int)] :: [])) ((E.set d.toNat ((min (((x225) + (1 : Int))) (1000000 : Int)))).length - 0) ?_ ?_
                    · exact ⟨0, (E.set d.toNat ((min (((x225) + (1 : Int))) (1000000 : Int)))), rfl, ⟨Nat.zero_le _, by simp [half], set_in hmem _ (by omega)⟩, hF.to [1, 2, 6, 8, 9, 10] rfl, (hS.sub [0, 1, 2] (by decide) (by first | rfl | simp) (by simp))⟩
                    · clear hF hS; try clear hSS
                      clear a w; rintro m a w ⟨j, F, rfl, hinv, hF, hS⟩
                      have hinv2 := hinv
                      clear hinv
                      rename (_ : Int) ≤ n ∧ crun _ _ _ _ = _ ∧ _ => hinv
                      have hmem2 := hinv2.2.2
                      have hFl := half_len hinv2.2.1 hinv2.1
                      have hFs : F.length ≤ 4 := by rw [hFl, List.length_set]; omega
                      refine c_seq ?_
                      refine c_seq ?_
                      refine c_region ?_
                      refine seq_yl hF (wn_none rfl) rfl rfl (yl_move hF rfl rfl) ?_
                      clear hF; intro a hF
                      refine seq_yl hF (wn_none rfl) rfl rfl (yl_fieldAddr hF rfl rfl (fun w => by kernel_rfl : ∀ w, (Instr.fieldAt 27 (.pointer (some ⟨g222, 0, none⟩)) 0).run Try.prog w = .ok (.pointer (some ⟨g222, 0, none⟩)) w)) ?_
                      clear hF; intro a hF
                      refine seq_yl hF (wn_none rfl) rfl rfl (yl_load (fun _ h => h ▸ hS) hF rfl rfl 0 rfl ag22 rfl) ?_
                      clear hF; intro a hF
                      refine seq_yl hF (wn_none rfl) rfl rfl (yl_len hF rfl rfl (fun _ => run_lenRd sl22 (hS.rdRow 1 rfl))) ?_
                      clear hF; intro a hF
                      refine seq_yl hF (wn_none rfl) rfl rfl (yl_bin hF rfl rfl rfl rfl (fun _ => run_lss)) ?_
                      clear hF; intro a hF
                      refine wpList_nil ?_
                      refine then_n ?_
                      refine c_cond hF rfl (fun hc228 => ?_) (fun hc228 => ?_)
                      · first | (replace hc228 := of_decide_eq_true hc228) | (replace hc228 := of_decide_eq_false (bnot_t hc228)) | (subst hc228) | (replace hc228 := bnot_t hc228; subst hc228) | (replace hc228 := bnot_t hc228) | skip
                        refine wp_skip ?_
                        refine then_n ?_
                        refine c_seq ?_
                        refine wp_block ?_
                        refine c_region ?_
                        refine seq_yl hF (wn_none rfl) rfl rfl (yl_fieldAddr hF rfl rfl (fun w => by kernel_rfl : ∀ w, (Instr.fieldAt 27 (.pointer (some ⟨g222, 0, none⟩)) 0).run Try.prog w = .ok (.pointer (some ⟨g222, 0, none⟩)) w)) ?_
                        clear hF; intro a hF
                        refine seq_yl hF (wn_none rfl) rfl rfl (yl_load (fun _ h => h ▸ hS) hF rfl rfl 0 rfl ag22 rfl) ?_
                        clear hF; intro a hF
                        refine seq_yl hF (wn_none rfl) rfl rfl (yl_move hF rfl rfl) ?_
                        clear hF; intro a hF
                        have hlt_hx229 : j < (F).length := by (have := half_len hinv2.2.1 hinv2.1; omega)
                        obtain ⟨x229, hx229⟩ := get_some hlt_hx229
                        have hb_x229 := hmem2 x229 (List.mem_of_getElem? hx229)
                        refine seq_yl hF (wn_none rfl) rfl rfl (yl_indexAddr hF rfl rfl rfl (fun _ => run_idx' sl22 sz3 (hS.rdRow 1 rfl) hlt_hx229)) ?_
                        clear hF; intro a hF
                        refine seq_yl hF (wn_none rfl) rfl rfl (yl_loadAt hF rfl rfl ag3 (fun _ h => rd_cell0 (by subst h; exact hS.rdRow 1 rfl) encI_len hx229 rfl rfl)) ?_
                        clear hF; intro a hF
                        refine seq_yl hF (wn_none rfl) rfl rfl (yl_bin hF rfl rfl rfl rfl (fun _ => run_quoN (by omega) (by omega) (by omega))) ?_
                        clear hF; intro a hF
                        refine seq_yl hF (wn_none rfl) rfl rfl (yl_indexAddr hF rfl rfl rfl (fun _ => run_idx' sl22 sz3 (hS.rdRow 1 rfl) hlt_hx229)) ?_
                        clear hF; intro a hF
                        refine seq_wp (wn_none rfl) (wp_storeAt0 (enc := encI) (z' := (((x229) / (2 : Int)))) hF hS rfl rfl rfl rfl 1 rfl sz3 (by simp [Value.cells, Value.oneCell']) encI_len hx229 (by simp [Value.cells]) rfl ?_)
                        clear hF hS; intro a w hF hS
                        refine wpList_nil ?_
                        refine inb_n ?_
                        refine then_n ?_
                        refine c_region ?_
                        refine seq_yl hF (wn_none rfl) rfl rfl (yl_move hF rfl rfl) ?_
                        clear hF; intro a hF
                        refine seq_yl hF (wn_none rfl) rfl rfl (yl_bin hF rfl rfl rfl rfl (fun _ => run_inc (by omega))) ?_
                        clear hF; intro a hF
                        refine seq_yl hF (wn_none rfl) rfl rfl (yl_assign hF rfl rfl) ?_
                        clear hF; intro a hF
                        refine wpList_nil ?_
                        refine then_n ?_
                        exact ⟨_, (by omega), j + 1, _, rfl, ⟨by omega, half_step hinv2.2.1 hx229 (by omega), set_in hinv2.2.2 _ (by omega)⟩, hF.to [1, 2, 6, 8, 9, 10] rfl, (hS.sub [0, 1, 2] (by decide) (by first | rfl | simp) (by simp))⟩
                      · first | (replace hc228 := of_decide_eq_false hc228) | (replace hc228 := of_decide_eq_true (bnot_f hc228)) | (subst hc228) | (replace hc228 := bnot_f hc228; subst hc228) | (replace hc228 := bnot_f hc228) | skip
                        refine wp_exit ?_
                        refine then_x ?_
                        refine then_x ?_
                        refine inb_x ?_
                        refine then_n ?_
                        refine c_region ?_
                        refine seq_yl hF (wn_none rfl) rfl rfl (yl_fieldAddr hF rfl rfl (fun w => by kernel_rfl : ∀ w, (Instr.fieldAt 27 (.pointer (some ⟨g222, 0, none⟩)) 1).run Try.prog w = .ok (.pointer (some ⟨g222, 1, none⟩)) w)) ?_
                        clear hF; intro a hF
                        refine seq_yl hF (wn_none rfl) rfl rfl (yl_load (fun _ h => h ▸ hS) hF rfl rfl 0 rfl ag3 rfl) ?_
                        clear hF; intro a hF
                        refine seq_yl hF (wn_none rfl) rfl rfl (yl_fieldAddr hF rfl rfl (fun w => by kernel_rfl : ∀ w, (Instr.fieldAt 27 (.pointer (some ⟨g222, 0, none⟩)) 2).run Try.prog w = .ok (.pointer (some ⟨g222, 2, none⟩)) w)) ?_
                        clear hF; intro a hF
                        refine seq_wp (wn_none rfl) (wp_store (cs' := #[_, _, _]) hF hS rfl rfl rfl rfl 0 rfl sz3 (by simp [Value.cells, Value.oneCell']) (by simp [Value.cells]) rfl ?_)
                        clear hF hS; intro a w hF hS
                        refine wpList_nil ?_
                        refine inb_n ?_
                        refine then_n ?_
                        refine c_region ?_
                        refine seq_yl hF (wn_none rfl) rfl rfl (yl_move hF rfl rfl) ?_
                        clear hF; intro a hF
                        refine seq_yl hF (wn_none rfl) rfl rfl (yl_bin hF rfl rfl rfl rfl (fun _ => run_inc (by omega))) ?_
                        clear hF; intro a hF
                        refine seq_yl hF (wn_none rfl) rfl rfl (yl_assign hF rfl rfl) ?_
                        clear hF; intro a hF
                        refine wpList_nil ?_
                        refine then_n ?_
                        exact ⟨_, (by omega), k + 1, _, _, rfl, ⟨by omega, run_half hinv.2.1 hx225 (by omega) (half_done hinv2.2.1 (by omega)), by have := half_len hinv2.2.1 hinv2.1; rw [List.length_set] at this; omega⟩, hF.to [1, 2, 6, 8, 9] rfl, (hS.sub [0, 1, 2] (by decide) (by first | rfl | simp) (by simp))⟩
                  · first | (replace hc227 := of_decide_eq_false hc227) | (replace hc227 := of_decide_eq_true (bnot_f hc227)) | (subst hc227) | (replace hc227 := bnot_f hc227; subst hc227) | (replace hc227 := bnot_f hc227) | skip
                    refine wp_skip ?_
                    refine inb_n ?_
                    refine then_n ?_
                    refine c_region ?_
                    refine seq_yl hF (wn_none rfl) rfl rfl (yl_move hF rfl rfl) ?_
                    clear hF; intro a hF
                    refine seq_yl hF (wn_none rfl) rfl rfl (yl_bin hF rfl rfl rfl rfl (fun _ => run_inc (by omega))) ?_
                    clear hF; intro a hF
                    refine seq_yl hF (wn_none rfl) rfl rfl (yl_assign hF rfl rfl) ?_
                    clear hF; intro a hF
                    refine wpList_nil ?_
                    refine then_n ?_
                    exact ⟨_, (by omega), k + 1, _, _, rfl, ⟨by omega, run_no hinv.2.1 hx225 (by omega), by rw [List.length_set]; exact hEl⟩, hF.to [1, 2, 6, 8, 9] rfl, (hS.sub [0, 1, 2] (by decide) (by first | rfl | simp) (by simp))⟩
                · first | (replace hc224 := of_decide_eq_false hc224) | (replace hc224 := of_decide_eq_true (bnot_f hc224)) | (subst hc224) | (replace hc224 := bnot_f hc224; subst hc224) | (replace hc224 := bnot_f hc224) | skip
                  refine wp_exit ?_
                  refine then_x ?_
                  refine then_x ?_
                  refine inb_x ?_
                  refine then_n ?_
                  refine c_seq ?_
                  refine c_region ?_
                  refine seq_yl hF (wn_none rfl) rfl rfl (yl_loadK (rs := [_, _, _]) (fun _ h => h ▸ hS) hF rfl rfl 0 rfl ag27 sz27 rfl rfl) ?_
                  clear hF; intro a hF
                  refine seq_wp (wn_none rfl) (wp_store (cs' := #[_, _, _]) hF hS rfl rfl rfl rfl 2 rfl sz27 (by simp [Value.cells, Value.oneCell']) (by simp [Value.cells]) rfl ?_)
                  clear hF hS; intro a w hF hS
                  refine seq_yl hF (wn_none rfl) rfl rfl (yl_assign hF rfl rfl) ?_
                  clear hF; intro a hF
                  refine wpList_nil ?_
                  refine then_n ?_
                  refine wp_ret ?_
                  refine ret_ct hF rfl (resC hS rfl 2 rfl ag27 sz27) rfl ?_
                  obtain ⟨hs1, hs2⟩ := st_0 (n := n) hchk (by omega) (by omega) hinv.2.1
                  rw [hs1, hs2]
                  exact ⟨_, rfl, _, rfl, .inl (hS.sub [1] (by decide) (by first | rfl | simp) (by simp))⟩

theorem comp2_ro (w0 w : World) (Ht : List Chunk) (vv : Value) (L : List Int) (p q d n : Int) (hS : Sat w0 w (.ro 1 vv L.length (cells encI L) :: Ht)) (hL : L.length ≤ 1000000) :
    Fn Try.prog 12 #[.agg #[vv, .int .i64 p, .int .i64 q], .int .i64 d, .int .i64 n] w (fun v w' => ∃ v1, v = .tuple #[.agg #[v1, .int .i64 p, .int .i64 (stF L p q d n).2], .int .i64 (errF L p q d n)] ∧ Sat w0 w' (.ro 1 v1 (stF L p q d n).1.length (cells encI (stF L p q d n).1) :: .ro 1 vv L.length (cells encI L) :: Ht)) := by
  refine Calls.mono (comp2_any vv L p q d n w (hS.rdRo 0 rfl) hL) fun e w' he => ?_
  obtain ⟨v, rfl, v1, rfl, h | ⟨rfl, h2, h⟩⟩ := he
  · exact ⟨_, rfl, _, rfl, (hS.callB h rfl).toRo 0 rfl⟩
  · refine ⟨_, rfl, _, rfl, ?_⟩
    rw [h2]
    exact (hS.callB h rfl).dupRo 0 rfl

end Go.Proofs.Ytllcklmbbkafgaa

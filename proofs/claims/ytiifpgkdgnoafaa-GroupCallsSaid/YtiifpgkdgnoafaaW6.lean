/- walks, printed by wip/gen -/
import Derived.Test.YtiifpgkdgnoafaaW5
import Derived.Test.YtiifpgkdgnoafaaP2
namespace Go.Proofs.Ytiifpgkdgnoafaa
open Go.RowKit
set_option linter.unusedVariables false
set_option linter.unusedSimpArgs false

theorem groups_any (w0 w : World) (Ht : List Chunk) (g : Nat) (Av : Option Addr) (cv : Nat) (L : List Int) (i : Nat) (hS : Sat w0 w (.box g 25 #[.slice Av L.length cv, .int .i64 ((i : Nat) : Int)] :: .ro 1 (.slice Av L.length cv) L.length (cells encI L) :: Ht)) (hi : i ≤ L.length) (hL : L.length ≤ 9223372036854775807) :
    Fn Try.prog 8 #[.pointer (some ⟨g, 0, none⟩)] w (fun v w' => ∃ (v1 : Value) (G : List E36) (i' : Nat), v = v1 ∧ 1 ≤ G.length ∧ G.length ≤ 4 ∧ (∀ e ∈ G, okR e) ∧ i' ≤ L.length ∧ Sat w0 w' (.row 36 3 v1 (G).length (cells enc36 (G)) :: .box g 25 #[.slice Av L.length cv, .int .i64 ((i' : Nat) : Int)] :: .ro 1 (.slice Av L.length cv) L.length (cells encI L) :: Ht)) := by
  refine c_enterS (N := 38) (l := [_]) Try.func8 rfl rfl (fun a hF => ?_)
  refine c_seq ?_
  refine c_region ?_
  refine seq_yl hF (wn_none rfl) rfl rfl (yl_assign hF rfl rfl) ?_
  clear hF; intro a hF
  refine wpList_nil ?_
  refine then_n ?_
  refine c_seq ?_
  refine c_region ?_
  refine seq_yl hF (wn_none rfl) rfl rfl (yl_assign hF rfl rfl) ?_
  clear hF; intro a hF
  refine wpList_nil ?_
  refine then_n ?_
  refine c_seq ?_
  refine c_seq ?_
  refine c_region ?_
  refine seq_yl hF (wn_none rfl) rfl rfl (yl_move hF rfl rfl) ?_
  clear hF; intro a hF
  refine seq_wp (wn_none rfl) (wp_call (vs := [_, _]) hF rfl rfl rfl rfl cf9 (next_any _ _ _ _ _ _ _ (i : Nat) (4 : Int) (by omega) hS (by omega) (by omega)) ?_)
  clear hF; rintro _ w ⟨r103, it104, rfl, hb105, hiit104, hS1⟩ a hF; replace hS := hS1; clear hS1
  refine seq_yl hF (wn_none rfl) rfl rfl (yl_bin hF rfl rfl rfl rfl (fun _ => run_add (by refine ⟨?_, ?_⟩ <;> omega))) ?_
  clear hF; intro a hF
  refine seq_yl hF (wn_none rfl) rfl rfl (yl_assign hF rfl rfl) ?_
  clear hF; intro a hF
  refine wpList_nil ?_
  refine then_n ?_
  refine wp_block ?_
  replace hS := hS.addNil 36 3
  refine c_loop (fun m a w => ∃ (nn : Int) (it : Nat) (E : List E36) (AvE : Option Addr) (cvE : Nat), m = nn.toNat ∧ (0 ≤ nn ∧ nn + E.length = (((1 : Int) + (r103))) ∧ it ≤ L.length ∧ ∀ e ∈ E, okR e) ∧ Fr 38 a [(0, .pointer (some ⟨g, 0, none⟩)), (3, .slice AvE (E).length cvE), (4, .int .i64 (nn))] ∧ Sat w0 w (.box g 25 #[.slice Av L.length cv, .int .i64 ((it : Nat) : Int)] :: .ro 1 (.slice Av L.length cv) (L).length (cells encI (L)) :: .row 36 3 (.slice AvE (E).length cvE) (E).length (cells enc36 (E)) :: Ht)) (((((1 : Int) + (r103)))).toNat) ?_ ?_
  · exact ⟨(((1 : Int) + (r103))), it104, [], none, 0, rfl, ⟨by omega, by simp, by omega, by simp⟩, hF.to [0, 3, 4] rfl, (hS.subT 3 [1, 2, 0] (by decide) (by first | rfl | simp) (by simp) (by simp))⟩
  · clear hF hS; try clear hSS
    clear a w; rintro m a w ⟨nn, it, E, AvE, cvE, rfl, hinv, hF, hS⟩
    obtain ⟨hn0, hnE, hit, hok⟩ := hinv
    refine c_seq ?_
    refine c_seq ?_
    refine c_region ?_
    refine seq_yl hF (wn_none rfl) rfl rfl (yl_move hF rfl rfl) ?_
    clear hF; intro a hF
    refine seq_yl hF (wn_none rfl) rfl rfl (yl_bin hF rfl rfl rfl rfl (fun _ => run_gtr)) ?_
    clear hF; intro a hF
    refine wpList_nil ?_
    refine then_n ?_
    refine c_cond hF rfl (fun hc106 => ?_) (fun hc106 => ?_)
    · first | (replace hc106 := of_decide_eq_true hc106) | (replace hc106 := of_decide_eq_false (bnot_t hc106)) | (subst hc106) | (replace hc106 := bnot_t hc106; subst hc106) | (replace hc106 := bnot_t hc106) | skip
      refine wp_skip ?_
      refine then_n ?_
      refine c_seq ?_
      refine wp_block ?_
      refine c_seq ?_
      refine c_region ?_
      refine seq_yl hF (wn_none rfl) rfl rfl (yl_move hF rfl rfl) ?_
      clear hF; intro a hF
      refine seq_wp (wn_none rfl) (wp_call (vs := [_, _]) hF rfl rfl rfl rfl cf9 (next_any _ _ _ _ _ _ _ (it : Nat) (20 : Int) (by omega) hS (by omega) (by omega)) ?_)
      clear hF; rintro _ w ⟨r107, it108, rfl, hb109, hiit108, hS1⟩ a hF; replace hS := hS1; clear hS1
      refine seq_yl hF (wn_none rfl) rfl rfl (yl_bin hF rfl rfl rfl rfl (fun _ => run_add (by refine ⟨?_, ?_⟩ <;> omega))) ?_
      clear hF; intro a hF
      refine seq_yl hF (wn_none rfl) rfl rfl (yl_move hF rfl rfl) ?_
      clear hF; intro a hF
      refine seq_wp (wn_none rfl) (wp_call (vs := [_, _]) hF rfl rfl rfl rfl cf9 (next_any _ _ _ _ _ _ _ (it108 : Nat) (24 : Int) (by omega) hS (by omega) (by omega)) ?_)
      clear hF; rintro _ w ⟨r110, it111, rfl, hb112, hiit111, hS1⟩ a hF; replace hS := hS1; clear hS1
      refine seq_yl hF (wn_none rfl) rfl rfl (yl_build (parts := [(0, .tmp 15), (2, .tmp 17)]) (vs := [(0, _), (2, _)]) (cs := [_, _, _]) hF bd36 rfl rfl rfl rfl) ?_
      clear hF; intro a hF
      refine seq_wp (wn_none rfl) (wp_alloc (cs := #[_, _, _]) hF hS rfl rfl rfl zr36 rfl ?_)
      clear hF hS; intro a w g113 hF hS
      refine seq_wp (wn_none rfl) (wp_store (cs' := #[_, _, _]) hF hS rfl rfl rfl rfl 0 rfl sz36 (by simp [Value.cells, Value.oneCell']) (by simp [Value.cells]) rfl ?_)
      clear hF hS; intro a w hF hS
      refine wpList_nil ?_
      refine then_n ?_
      refine c_seq ?_
      refine c_region ?_
      refine seq_yl hF (wn_none rfl) rfl rfl (yl_move hF rfl rfl) ?_
      clear hF; intro a hF
      refine seq_yl hF (wn_none rfl) rfl rfl (yl_fieldAddr hF rfl rfl (fun w => by kernel_rfl : ∀ w, (Instr.fieldAt 36 (.pointer (some ⟨g113, 0, none⟩)) 0).run Try.prog w = .ok (.pointer (some ⟨g113, 0, none⟩)) w)) ?_
      clear hF; intro a hF
      refine seq_yl hF (wn_none rfl) rfl rfl (yl_load (fun _ h => h ▸ hS) hF rfl rfl 0 rfl ag3 rfl) ?_
      clear hF; intro a hF
      refine seq_yl hF (wn_none rfl) rfl rfl (yl_bin hF rfl rfl rfl rfl (fun _ => run_add (by refine ⟨?_, ?_⟩ <;> omega))) ?_
      clear hF; intro a hF
      replace hS := (hS.subT 4 [1, 2, 0, 3] (by decide) (by first | rfl | simp) (by simp) (by simp))
      refine seq_wp (wn_none rfl) (wp_call (vs := [_, _]) hF rfl rfl rfl rfl cf9 (next_any _ _ _ _ _ _ _ (it111 : Nat) (((((1 : Int) + (r107))) + (1 : Int))) (by omega) hS (by omega) (by omega)) ?_)
      clear hF; rintro _ w ⟨r114, it115, rfl, hb116, hiit115, hS1⟩ a hF; replace hS := hS1; clear hS1
      refine seq_yl hF (wn_none rfl) rfl rfl (yl_fieldAddr hF rfl rfl (fun w => by kernel_rfl : ∀ w, (Instr.fieldAt 36 (.pointer (some ⟨g113, 0, none⟩)) 1).run Try.prog w = .ok (.pointer (some ⟨g113, 1, none⟩)) w)) ?_
      clear hF; intro a hF
      refine seq_wp (wn_none rfl) (wp_store (cs' := #[_, _, _]) hF hS rfl rfl rfl rfl 2 rfl sz3 (by simp [Value.cells, Value.oneCell']) (by simp [Value.cells]) rfl ?_)
      clear hF hS; intro a w hF hS
      refine wpList_nil ?_
      refine then_n ?_
      refine c_region ?_
      refine seq_yl hF (wn_none rfl) rfl rfl (yl_move hF rfl rfl) ?_
      clear hF; intro a hF
      refine seq_yl hF (wn_none rfl) rfl rfl (yl_loadK (rs := [_, _, _]) (fun _ h => h ▸ hS) hF rfl rfl 2 rfl ag36 sz36 rfl rfl) ?_
      clear hF; intro a hF
      refine seq_wp (wn_none rfl) (wp_bslice (parts := [(0, .tmp 26)]) (vs := [(0, _)]) (enc := enc36) (e := 36) (size := 3) (cs := #[.int .i64 (((1 : Int) + (r107))), .int .i64 (r114), .int .i64 (r110)]) hF hS rfl rfl rfl rfl ([(E36.mk (((1 : Int) + (r107))) (r114) (r110))] : List E36) (fun w => by kernel_rfl) rfl rfl rfl (by decide) ?_)
      clear hF hS; intro a w v117 hF hS
      obtain ⟨Av117, cv117, rfl⟩ := hS.form 0 rfl
      refine seq_wp (wn_none rfl) (wp_app (enc := enc36) hF hS rfl rfl rfl rfl rfl 4 rfl sl26 inf36 rfl (by decide) (hS.rdRow 0 rfl) enc36_one (by decide) (by first | omega | (simp only [List.length_append, List.length_cons, List.length_nil]; omega)) ?_)
      clear hF hS; intro a w v118 hF hS
      obtain ⟨Av118, cv118, rfl⟩ := hS.form 4 rfl
      refine seq_yl hF (wn_none rfl) rfl rfl (yl_assign hF rfl rfl) ?_
      clear hF; intro a hF
      refine wpList_nil ?_
      refine inb_n ?_
      refine then_n ?_
      refine c_region ?_
      refine seq_yl hF (wn_none rfl) rfl rfl (yl_move hF rfl rfl) ?_
      clear hF; intro a hF
      refine seq_yl hF (wn_none rfl) rfl rfl (yl_bin hF rfl rfl rfl rfl (fun _ => run_sub (by refine ⟨?_, ?_⟩ <;> omega))) ?_
      clear hF; intro a hF
      refine seq_yl hF (wn_none rfl) rfl rfl (yl_assign hF rfl rfl) ?_
      clear hF; intro a hF
      refine wpList_nil ?_
      refine then_n ?_
      exact ⟨_, (by omega), (((nn) - (1 : Int))), it115, (E ++ ([(E36.mk (((1 : Int) + (r107))) (r114) (r110))] : List E36)), Av118, cv118, rfl, ⟨by omega, by rw [List.length_append, List.length_singleton]; omega, by omega, okR_app hok (by unfold okR; simp only; omega)⟩, hF.to [0, 3, 4] rfl, (hS.subT 5 [1, 2, 4] (by decide) (by first | rfl | simp) (by simp) (by simp))⟩
    · first | (replace hc106 := of_decide_eq_false hc106) | (replace hc106 := of_decide_eq_true (bnot_f hc106)) | (subst hc106) | (replace hc106 := bnot_f hc106; subst hc106) | (replace hc106 := bnot_f hc106) | skip
      refine wp_exit ?_
      refine then_x ?_
      refine then_x ?_
      refine inb_x ?_
      refine then_n ?_
      refine c_seq ?_
      refine c_seq ?_
      refine c_region ?_
      refine seq_yl hF (wn_none rfl) rfl rfl (yl_move hF rfl rfl) ?_
      clear hF; intro a hF
      refine seq_wp (wn_none rfl) (wp_call (vs := [_, _]) hF rfl rfl rfl rfl cf9 (next_any _ _ _ _ _ _ _ (it : Nat) (12 : Int) (by omega) hS (by omega) (by omega)) ?_)
      clear hF; rintro _ w ⟨r119, it120, rfl, hb121, hiit120, hS1⟩ a hF; replace hS := hS1; clear hS1
      refine seq_yl hF (wn_none rfl) rfl rfl (yl_bin hF rfl rfl rfl rfl (fun _ => run_eql)) ?_
      clear hF; intro a hF
      refine wpList_nil ?_
      refine then_n ?_
      refine c_cond hF rfl (fun hc122 => ?_) (fun hc122 => ?_)
      · first | (replace hc122 := of_decide_eq_true hc122) | (replace hc122 := of_decide_eq_false (bnot_t hc122)) | (subst hc122) | (replace hc122 := bnot_t hc122; subst hc122) | (replace hc122 := bnot_t hc122) | skip
        refine c_region ?_
        refine seq_yl hF (wn_none rfl) rfl rfl (yl_move hF rfl rfl) ?_
        clear hF; intro a hF
        refine seq_yl hF (wn_none rfl) rfl rfl (yl_move hF rfl rfl) ?_
        clear hF; intro a hF
        refine seq_wp (wn_none rfl) (wp_call (vs := [_]) hF rfl rfl rfl rfl cf10 (odd_any _ _ _ _ _ _ _ (it120 : Nat) hS (by omega) (by omega)) ?_)
        clear hF; rintro _ w ⟨r123, it124, rfl, hb125, hiit124, hS1⟩ a hF; replace hS := hS1; clear hS1
        have hlt_hx126 : 0 < (E).length := by first | omega | (simp; done) | (simp; omega)
        obtain ⟨ad127, rfl⟩ := rd_some (hS.rdRow 2 rfl) hlt_hx126
        obtain ⟨x126, hx126⟩ := get_some hlt_hx126
        have hb_x126 := hok x126 (List.mem_of_getElem? hx126)
        refine seq_yl hF (wn_none rfl) rfl rfl (yl_indexAddr hF rfl rfl rfl (fun _ => run_idx' (k := 0) sl26 sz36 (hS.rdRow 2 rfl) hlt_hx126)) ?_
        clear hF; intro a hF
        refine seq_yl hF (wn_none rfl) rfl rfl (yl_fieldAddr hF rfl rfl (fun w => run_fa0 fo36_0)) ?_
        clear hF; intro a hF
        refine seq_wp (wn_none rfl) (wp_storeAt0 (enc := enc36) (z' := (E36.mk (r123) (x126.f1) (x126.f2))) hF hS rfl rfl rfl rfl 2 rfl sz3 (by simp [Value.cells, Value.oneCell']) enc36_len hx126 (by simp [Value.cells]) rfl ?_)
        clear hF hS; intro a w hF hS
        refine wpList_nil ?_
        refine then_n ?_
        refine c_seq ?_
        refine c_region ?_
        refine seq_yl hF (wn_none rfl) rfl rfl (yl_move hF rfl rfl) ?_
        clear hF; intro a hF
        refine seq_yl hF (wn_none rfl) rfl rfl (yl_assign hF rfl rfl) ?_
        clear hF; intro a hF
        refine wpList_nil ?_
        refine then_n ?_
        refine wp_ret ?_
        refine ret_t hF rfl rfl ?_
        exact ⟨_, rfl, _, (E.set 0 (E36.mk (r123) (x126.f1) (x126.f2))), it124, rfl, by first | omega | (simp; omega), by first | omega | (simp; omega), okR_set hok (by have h9 := hb_x126; unfold okR at h9 ⊢; simp only; omega), by omega, (hS.subT 3 [2, 0, 1] (by decide) (by first | rfl | simp) (by simp) (by simp))⟩
      · first | (replace hc122 := of_decide_eq_false hc122) | (replace hc122 := of_decide_eq_true (bnot_f hc122)) | (subst hc122) | (replace hc122 := bnot_f hc122; subst hc122) | (replace hc122 := bnot_f hc122) | skip
        refine wp_skip ?_
        refine then_n ?_
        refine c_seq ?_
        refine c_region ?_
        refine seq_yl hF (wn_none rfl) rfl rfl (yl_move hF rfl rfl) ?_
        clear hF; intro a hF
        refine seq_yl hF (wn_none rfl) rfl rfl (yl_assign hF rfl rfl) ?_
        clear hF; intro a hF
        refine wpList_nil ?_
        refine then_n ?_
        refine wp_ret ?_
        refine ret_t hF rfl rfl ?_
        exact ⟨_, rfl, _, E, it120, rfl, by first | omega | (simp; omega), by first | omega | (simp; omega), hok, by omega, (hS.subT 3 [2, 0, 1] (by decide) (by first | rfl | simp) (by simp) (by simp))⟩

end Go.Proofs.Ytiifpgkdgnoafaa

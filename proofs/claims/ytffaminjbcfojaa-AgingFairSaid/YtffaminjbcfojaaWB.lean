/- walks, printed by wip/gen -/
import Derived.Test.YtffaminjbcfojaaW7
import Derived.Test.YtffaminjbcfojaaW8
import Derived.Test.YtffaminjbcfojaaP3
namespace Go.Proofs.Ytffaminjbcfojaa
open Go.RowKit
set_option linter.unusedVariables false
set_option linter.unusedSimpArgs false

set_option maxRecDepth 100000 in
theorem endT_any (w0 w : World) (Ht : List Chunk) (g : Nat) (Av : Option Addr) (cv : Nat) (L : List Int) (i : Nat) (hS : Sat w0 w (.box g 25 #[.slice Av L.length cv, .int .i64 ((i : Nat) : Int)] :: .ro 1 (.slice Av L.length cv) L.length (cells encI L) :: Ht)) (hi : i ≤ L.length) (hL : L.length ≤ 9223372036854775807) :
    Fn Try.prog 23 #[.pointer (some ⟨g, 0, none⟩)] w (fun v w' => ∃ (b : Bool), v = .bool b ∧ Sat w0 w' (.box g 25 #[.slice Av L.length cv, .int .i64 ((i : Nat) : Int)] :: .ro 1 (.slice Av L.length cv) L.length (cells encI L) :: Ht)) := by
  refine c_enterS (N := 13) (l := [_]) Try.func23 rfl rfl (fun a hF => ?_)
  refine c_seq ?_
  refine c_region ?_
  refine seq_yl hF (wn_none rfl) rfl rfl (yl_assign hF rfl rfl) ?_
  clear hF; intro a hF
  refine wpList_nil ?_
  refine then_n ?_
  refine c_seq ?_
  refine ha_startS hS [0] 11 (by kernel_rfl) ?_; clear hS; intro w hS
  have hSS := hS.sub [0] (by decide) rfl (by simp)
  refine ha_y 0 hF rfl rfl rfl (wn_none rfl) (.inr hSS) (yl_move hF rfl rfl) ?_
  clear hF; intro a hF
  refine ha_y 1 hF rfl rfl rfl (wn_none rfl) (.inr hSS) (yl_nilCheck hF rfl rfl) ?_
  clear hF; intro a hF
  refine ha_y 2 hF rfl rfl rfl (wn_none rfl) (.inr hSS) (yl_fieldAddr hF rfl rfl (fun w => by kernel_rfl : ∀ w, (Instr.fieldAt 25 (.pointer (some ⟨g, 0, none⟩)) 1).run Try.prog w = .ok (.pointer (some ⟨g, 1, none⟩)) w)) ?_
  clear hF; intro a hF
  refine ha_y 4 hF rfl rfl rfl (wn_none rfl) (.inr hSS) (yl_move hF rfl rfl) ?_
  clear hF; intro a hF
  refine ha_y 5 hF rfl rfl rfl (wn_none rfl) (.inr hSS) (yl_nilCheck hF rfl rfl) ?_
  clear hF; intro a hF
  refine ha_y 6 hF rfl rfl rfl (wn_none rfl) (.inr hSS) (yl_fieldAddr hF rfl rfl (fun w => by kernel_rfl : ∀ w, (Instr.fieldAt 25 (.pointer (some ⟨g, 0, none⟩)) 0).run Try.prog w = .ok (.pointer (some ⟨g, 0, none⟩)) w)) ?_
  clear hF; intro a hF
  refine ha_l 3 hF rfl rfl rfl (wn_none rfl) hSS (yl_load (fun _ h => h) hF rfl rfl 0 rfl ag3 rfl) ?_
  clear hF; intro a hF
  refine ha_l 7 hF rfl rfl rfl (wn_none rfl) hSS (yl_load (fun _ h => h) hF rfl rfl 0 rfl ag22 rfl) ?_
  clear hF; intro a hF
  refine ha_y 8 hF rfl rfl rfl (wn_none rfl) (.inr hSS) (yl_len hF rfl rfl (fun _ => run_lenRd sl22 (hS.rdRo 1 rfl))) ?_
  clear hF; intro a hF
  refine ha_y 9 hF rfl rfl rfl (wn_none rfl) (.inr hSS) (yl_bin hF rfl rfl rfl rfl (fun _ => run_geq)) ?_
  clear hF; intro a hF
  refine ha_y 10 hF rfl rfl rfl (wn_none rfl) (.inr hSS) (yl_assign hF rfl rfl) ?_
  clear hF; intro a hF
  refine ha_done (by kernel_rfl) ?_ _
  refine then_n ?_
  refine wp_ret ?_
  refine ret_t hF rfl rfl ?_
  exact ⟨_, rfl, _, rfl, (hS.subT 2 [0, 1] (by decide) (by first | rfl | simp) (by simp) (by simp))⟩

set_option maxHeartbeats 4000000 in
set_option maxRecDepth 100000 in
theorem fair_law (v : Value) (L : List Int) (w0 : World) (hv : Rd w0 1 v (L).length (cells encI (L))) (hL : L.length ≤ 9223372036854775807) :
    Fn Try.prog 4 #[v] w0 (fun v w' => v = .bool true ∧ Sat w0 w' []) := by
  obtain ⟨Av, cv, rfl⟩ := Rd.form hv
  refine c_enter (N := 165) (l := [_]) Try.func4 rfl rfl (fun a w hF hS => ?_)
  replace hS := hS.addRo hv
  refine c_seq ?_
  refine c_region ?_
  refine seq_yl hF (wn_none rfl) rfl rfl (yl_assign hF rfl rfl) ?_
  clear hF; intro a hF
  refine wpList_nil ?_
  refine then_n ?_
  refine c_seq ?_
  refine c_region ?_
  refine seq_yl hF (wn_none rfl) rfl rfl (yl_move hF rfl rfl) ?_
  clear hF; intro a hF
  refine seq_yl hF (wn_none rfl) rfl rfl (yl_build (parts := [(0, .tmp 25)]) (vs := [(0, _)]) (cs := [_, _]) hF bd25 rfl rfl rfl rfl) ?_
  clear hF; intro a hF
  refine seq_wp (wn_none rfl) (wp_box (cs := #[_, _]) hF hS rfl rfl rfl rfl rfl ?_)
  clear hF hS; intro a w g364 hF hS
  refine seq_yl hF (wn_none rfl) rfl rfl (yl_assign hF rfl rfl) ?_
  clear hF; intro a hF
  refine wpList_nil ?_
  refine then_n ?_
  refine c_seq ?_
  refine c_region ?_
  refine seq_yl hF (wn_none rfl) rfl rfl (yl_assign hF rfl rfl) ?_
  clear hF; intro a hF
  refine wpList_nil ?_
  refine then_n ?_
  refine c_seq ?_
  refine c_region ?_
  refine seq_wp (wn_none rfl) (wp_makeMap hF hS rfl rfl rfl ?_)
  clear hF hS; intro a w g365 hF hS; have hm366 := mapI_new Try.prog 3 3
  refine seq_yl hF (wn_none rfl) rfl rfl (yl_assign hF rfl rfl) ?_
  clear hF; intro a hF
  refine wpList_nil ?_
  refine then_n ?_
  refine c_seq ?_
  refine c_region ?_
  refine seq_yl hF (wn_none rfl) rfl rfl (yl_assign hF rfl rfl) ?_
  clear hF; intro a hF
  refine wpList_nil ?_
  refine then_n ?_
  refine c_seq ?_
  refine c_seq ?_
  refine c_region ?_
  refine seq_yl hF (wn_none rfl) rfl rfl (yl_assign hF rfl rfl) ?_
  clear hF; intro a hF
  refine wpList_nil ?_
  refine then_n ?_
  refine wp_block ?_
  replace hS := hS.addNil 44 2
  refine c_loop (fun m a w => ∃ (n it : Nat) (nw : Int) (X : List E44) (om : Obj) (mn : Nat) (mf : Int → Option Int) (AvX : Option Addr) (cvX : Nat), m = 40 - n ∧ (n ≤ 40 ∧ it ≤ L.length ∧ (0 ≤ nw ∧ nw ≤ 2 * (n : Int)) ∧ okA X ∧ (∀ x ∈ X, x.f1 ≤ nw) ∧ X.length ≤ n ∧ SF X mf ∧ MapI Try.prog 3 3 om mn mf ∧ mn ≤ n) ∧ Fr 165 a [(3, .pointer (some ⟨g364, 0, none⟩)), (4, .slice AvX (X).length cvX), (5, .map (some g365)), (6, .int .i64 (nw)), (7, .int .i64 ((n : Nat) : Int))] ∧ Sat w0 w (.box g364 25 #[.slice Av (L).length cv, .int .i64 ((it : Nat) : Int)] :: .ro 1 (.slice Av (L).length cv) (L).length (cells encI (L)) :: .obj g365 om :: .row 44 2 (.slice AvX (X).length cvX) (X).length (cells enc44 (X)) :: [])) (40 - 0) ?_ ?_
  · exact ⟨0, 0, 0, [], _, 0, _, none, 0, rfl, ⟨by omega, by omega, by omega, ⟨by simp, by simp⟩, by simp, by simp, sf_nil, hm366, by omega⟩, hF.to [3, 4, 5, 6, 7] rfl, (hS.sub [2, 3, 1, 0] (by decide) (by first | rfl | simp) (by simp))⟩
  · clear hF hS; try clear hSS
    clear a w; rintro m a w ⟨n, it, nw, X, om, mn, mf, AvX, cvX, rfl, hinv, hF, hS⟩
    obtain ⟨hn, hit, hnw, hok, hle, hxl, hsf, hmI, hmn⟩ := hinv
    refine c_seq ?_
    refine c_seq ?_
    refine c_region ?_
    refine seq_yl hF (wn_none rfl) rfl rfl (yl_move hF rfl rfl) ?_
    clear hF; intro a hF
    refine seq_yl hF (wn_none rfl) rfl rfl (yl_bin hF rfl rfl rfl rfl (fun _ => run_lss)) ?_
    clear hF; intro a hF
    refine seq_yl hF (wn_none rfl) rfl rfl (yl_move hF rfl rfl) ?_
    clear hF; intro a hF
    refine fr_split hF (fun hc367 hF => ?_) (fun hc367 hF => ?_)
    · first | (replace hc367 := of_decide_eq_true hc367) | (replace hc367 := of_decide_eq_false (bnot_t hc367)) | (replace hc367 := bnot_t hc367) | skip
      refine seq_yl hF (wn_t hF rfl rfl rfl rfl) rfl rfl (yl_move hF rfl rfl) ?_
      clear hF; intro a hF
      refine seq_wp (wn_t hF rfl rfl rfl rfl) (wp_call (vs := [_]) hF rfl rfl rfl rfl cf23 (endT_any _ _ _ _ _ _ _ (it : Nat) hS (by omega) (by omega)) ?_)
      clear hF; rintro _ w ⟨be368, rfl, hS1⟩ a hF; replace hS := hS1; clear hS1
      refine seq_yl hF (wn_t hF rfl rfl rfl rfl) rfl rfl (yl_un hF rfl rfl (fun _ => run_not)) ?_
      clear hF; intro a hF
      refine seq_yl hF (wn_none rfl) rfl rfl (yl_pick (u := _) (v := undef) hF rfl rfl (fun _ => rfl) (fun h => by cases h)) ?_
      clear hF; intro a hF
      refine wpList_nil ?_
      refine then_n ?_
      refine c_cond hF rfl (fun hc369 => ?_) (fun hc369 => ?_)
      · first | (replace hc369 := of_decide_eq_true hc369) | (replace hc369 := of_decide_eq_false (bnot_t hc369)) | (replace hc369 := bnot_t hc369) | skip
        refine wp_skip ?_
        refine then_n ?_
        refine c_seq ?_
        refine wp_block ?_
        refine c_seq ?_
        refine c_region ?_
        refine seq_yl hF (wn_none rfl) rfl rfl (yl_move hF rfl rfl) ?_
        clear hF; intro a hF
        refine seq_yl hF (wn_none rfl) rfl rfl (yl_move hF rfl rfl) ?_
        clear hF; intro a hF
        refine seq_wp (wn_none rfl) (wp_call (vs := [_, _]) hF rfl rfl rfl rfl cf7 (next_any _ _ _ _ _ _ _ (it : Nat) (3 : Int) (by omega) hS (by omega) (by omega)) ?_)
        clear hF; rintro _ w ⟨r370, it371, rfl, hb372, hiit371, hS1⟩ a hF; replace hS := hS1; clear hS1
        refine seq_yl hF (wn_none rfl) rfl rfl (yl_bin hF rfl rfl rfl rfl (fun _ => run_add (by refine ⟨?_, ?_⟩ <;> omega))) ?_
        clear hF; intro a hF
        refine seq_yl hF (wn_none rfl) rfl rfl (yl_assign hF rfl rfl) ?_
        clear hF; intro a hF
        refine wpList_nil ?_
        refine then_n ?_
        refine c_seq ?_
        refine c_region ?_
        refine seq_yl hF (wn_none rfl) rfl rfl (yl_move hF rfl rfl) ?_
        clear hF; intro a hF
        refine seq_wp (wn_none rfl) (wp_call (vs := [_, _]) hF rfl rfl rfl rfl cf7 (next_any _ _ _ _ _ _ _ (it371 : Nat) (4 : Int) (by omega) hS (by omega) (by omega)) ?_)
        clear hF; rintro _ w ⟨r373, it374, rfl, hb375, hiit374, hS1⟩ a hF; replace hS := hS1; clear hS1
        refine seq_yl hF (wn_none rfl) rfl rfl (yl_assign hF rfl rfl) ?_
        clear hF; intro a hF
        refine wpList_nil ?_
        refine then_n ?_
        refine c_seq ?_
        refine c_seq ?_
        refine c_region ?_
        refine seq_yl hF (wn_none rfl) rfl rfl (yl_move hF rfl rfl) ?_
        clear hF; intro a hF
        refine seq_wp (wn_none rfl) (wp_call (vs := [_, _]) hF rfl rfl rfl rfl cf7 (next_any _ _ _ _ _ _ _ (it374 : Nat) (6 : Int) (by omega) hS (by omega) (by omega)) ?_)
        clear hF; rintro _ w ⟨r376, it377, rfl, hb378, hiit377, hS1⟩ a hF; replace hS := hS1; clear hS1
        refine seq_yl hF (wn_none rfl) rfl rfl (yl_bin hF rfl rfl rfl rfl (fun _ => run_eql)) ?_
        clear hF; intro a hF
        refine wpList_nil ?_
        refine then_n ?_
        refine c_cond hF rfl (fun hc379 => ?_) (fun hc379 => ?_)
        · first | (replace hc379 := of_decide_eq_true hc379) | (replace hc379 := of_decide_eq_false (bnot_t hc379)) | (replace hc379 := bnot_t hc379) | skip
          refine c_seq ?_
          refine c_region ?_
          refine seq_yl hF (wn_none rfl) rfl rfl (yl_move hF rfl rfl) ?_
          clear hF; intro a hF
          refine seq_yl hF (wn_none rfl) rfl rfl (yl_move hF rfl rfl) ?_
          clear hF; intro a hF
          refine seq_wp (wn_none rfl) (wp_call (vs := [_, _]) hF rfl rfl rfl rfl cf11 (remove_any _ X (r373) _ (hS.rdRow 3 rfl) (by first | omega | (simp; done) | (simp; omega))) ?_)
          clear hF; rintro _ w ⟨v380, L381, e382, rfl, hp383, hS1⟩ a hF
          replace hS := hS.callB hS1 rfl; clear hS1
          obtain ⟨Av380, cv380, rfl⟩ := hS.form 0 rfl
          have hlhp383 := rem_len hp383
          refine seq_yl hF (wn_none rfl) rfl rfl (yl_move hF rfl rfl) ?_
          clear hF; intro a hF
          refine seq_yl hF (wn_none rfl) rfl rfl (yl_extract hF rfl rfl rfl) ?_
          clear hF; intro a hF
          refine seq_yl hF (wn_none rfl) rfl rfl (yl_extract hF rfl rfl rfl) ?_
          clear hF; intro a hF
          refine seq_yl hF (wn_none rfl) rfl rfl (yl_assign hF rfl rfl) ?_
          clear hF; intro a hF
          refine seq_yl hF (wn_none rfl) rfl rfl (yl_assign hF rfl rfl) ?_
          clear hF; intro a hF
          refine wpList_nil ?_
          refine then_n ?_
          refine c_seq ?_
          refine c_region ?_
          obtain ⟨ha1, ha2, ha3, ha4, ha5⟩ := fair_rem hok hsf (by omega) hp383
          refine seq_yl hF (wn_none rfl) rfl rfl (yl_move hF rfl rfl) ?_
          clear hF; intro a hF
          refine seq_yl hF (wn_none rfl) rfl rfl (yl_move hF rfl rfl) ?_
          clear hF; intro a hF
          refine seq_yl hF (wn_none rfl) rfl rfl (yl_lookOk (z := (r373)) (fun _ h => h ▸ hS) hF rfl rfl rfl 3 rfl Try.underlying41 Try.underlying3 Try.underlying3 zr3 hmI (by unfold i64; omega)) ?_
          clear hF; intro a hF
          refine seq_yl hF (wn_none rfl) rfl rfl (yl_move hF rfl rfl) ?_
          clear hF; intro a hF
          refine seq_yl hF (wn_none rfl) rfl rfl (yl_extract hF rfl rfl rfl) ?_
          clear hF; intro a hF
          refine seq_yl hF (wn_none rfl) rfl rfl (yl_extract hF rfl rfl rfl) ?_
          clear hF; intro a hF
          refine seq_yl hF (wn_none rfl) rfl rfl (yl_assign hF rfl rfl) ?_
          clear hF; intro a hF
          refine seq_yl hF (wn_none rfl) rfl rfl (yl_assign hF rfl rfl) ?_
          clear hF; intro a hF
          refine wpList_nil ?_
          refine then_n ?_
          refine c_seq ?_
          refine c_seq ?_
          refine c_region ?_
          refine seq_yl hF (wn_none rfl) rfl rfl (yl_move hF rfl rfl) ?_
          clear hF; intro a hF
          refine seq_yl hF (wn_none rfl) rfl rfl (yl_bin hF rfl rfl rfl rfl (fun _ => run_eql)) ?_
          clear hF; intro a hF
          refine seq_yl hF (wn_none rfl) rfl rfl (yl_move hF rfl rfl) ?_
          clear hF; intro a hF
          refine seq_yl hF (wn_none rfl) rfl rfl (yl_bin hF rfl rfl rfl rfl (fun _ => run_neb Try.underlying4)) ?_
          clear hF; intro a hF
          replace hF := fr_set (b' := false) hF (by rw [ha5]; simp)
          refine wpList_nil ?_
          refine then_n ?_
          refine c_cond_f hF rfl ?_
          refine wp_skip ?_
          refine then_n ?_
          refine c_seq ?_
          refine c_region ?_
          refine seq_yl hF (wn_none rfl) rfl rfl (yl_move hF rfl rfl) ?_
          clear hF; intro a hF
          refine seq_yl hF (wn_none rfl) rfl rfl (yl_assign hF rfl rfl) ?_
          clear hF; intro a hF
          refine wpList_nil ?_
          refine then_n ?_
          refine c_seq ?_
          refine c_region ?_
          refine seq_yl hF (wn_none rfl) rfl rfl (yl_move hF rfl rfl) ?_
          clear hF; intro a hF
          refine seq_yl hF (wn_none rfl) rfl rfl (yl_move hF rfl rfl) ?_
          clear hF; intro a hF
          refine seq_wp (wn_none rfl) (wp_mapDel (z := (r373)) hF hS rfl rfl rfl rfl 3 rfl Try.underlying41 Try.underlying3 hmI (by unfold i64; omega) ?_)
          clear hF hS; intro a w ob384 hF hm385 hS
          refine wpList_nil ?_
          refine then_n ?_
          refine wp_exit ?_
          refine then_x ?_
          refine inb_x ?_
          refine then_n ?_
          refine c_region ?_
          refine seq_yl hF (wn_none rfl) rfl rfl (yl_move hF rfl rfl) ?_
          clear hF; intro a hF
          refine seq_yl hF (wn_none rfl) rfl rfl (yl_bin hF rfl rfl rfl rfl (fun _ => run_inc (by omega))) ?_
          clear hF; intro a hF
          refine seq_yl hF (wn_none rfl) rfl rfl (yl_assign hF rfl rfl) ?_
          clear hF; intro a hF
          refine wpList_nil ?_
          refine then_n ?_
          exact ⟨_, (by omega), n + 1, it377, (((nw) + (r370))), L381, ob384, mn, (fput mf (r373) none), Av380, cv380, rfl, ⟨by omega, by omega, by omega, ha1, (fun x hx => by have := hle x (ha2 x hx); omega), by omega, ha4, hm385, by omega⟩, hF.to [3, 4, 5, 6, 7] rfl, (hS.sub [1, 2, 3, 0] (by decide) (by first | rfl | simp) (by simp))⟩
        · first | (replace hc379 := of_decide_eq_false hc379) | (replace hc379 := of_decide_eq_true (bnot_f hc379)) | (replace hc379 := bnot_f hc379) | skip
          refine wp_skip ?_
          refine then_n ?_
          refine c_seq ?_
          refine c_region ?_
          refine seq_yl hF (wn_none rfl) rfl rfl (yl_move hF rfl rfl) ?_
          clear hF; intro a hF
          refine seq_yl hF (wn_none rfl) rfl rfl (yl_move hF rfl rfl) ?_
          clear hF; intro a hF
          refine seq_yl hF (wn_none rfl) rfl rfl (yl_move hF rfl rfl) ?_
          clear hF; intro a hF
          refine seq_wp (wn_none rfl) (wp_call (vs := [_, _, _]) hF rfl rfl rfl rfl cf9 (add_any _ X (r373) (((nw) + (r370))) _ (hS.rdRow 3 rfl) (by first | omega | (simp; done) | (simp; omega))) ?_)
          clear hF; rintro _ w ⟨v386, L387, e388, rfl, hp389, hS1⟩ a hF
          replace hS := hS.callB hS1 rfl; clear hS1
          obtain ⟨Av386, cv386, rfl⟩ := hS.form 0 rfl
          have hlhp389 := add_len hp389
          refine seq_yl hF (wn_none rfl) rfl rfl (yl_move hF rfl rfl) ?_
          clear hF; intro a hF
          refine seq_yl hF (wn_none rfl) rfl rfl (yl_extract hF rfl rfl rfl) ?_
          clear hF; intro a hF
          refine seq_yl hF (wn_none rfl) rfl rfl (yl_extract hF rfl rfl rfl) ?_
          clear hF; intro a hF
          refine seq_yl hF (wn_none rfl) rfl rfl (yl_assign hF rfl rfl) ?_
          clear hF; intro a hF
          refine seq_yl hF (wn_none rfl) rfl rfl (yl_assign hF rfl rfl) ?_
          clear hF; intro a hF
          refine wpList_nil ?_
          refine then_n ?_
          refine c_seq ?_
          refine c_seq ?_
          refine c_region ?_
          obtain ⟨hb0, hb1, hb2, hb3, hb4, hb5⟩ := fair_add hok hsf (by omega) (by omega) (fun x hx => by have := hle x hx; omega) hp389
          refine seq_yl hF (wn_none rfl) rfl rfl (yl_move hF rfl rfl) ?_
          clear hF; intro a hF
          refine seq_yl hF (wn_none rfl) rfl rfl (yl_bin hF rfl rfl rfl rfl (fun _ => run_neq)) ?_
          clear hF; intro a hF
          replace hF := fr_set (b' := false) hF (by rw [decide_eq_false_iff_not]; omega)
          refine wpList_nil ?_
          refine then_n ?_
          refine c_cond_f hF rfl ?_
          refine wp_skip ?_
          refine then_n ?_
          refine c_seq ?_
          refine c_region ?_
          refine seq_yl hF (wn_none rfl) rfl rfl (yl_move hF rfl rfl) ?_
          clear hF; intro a hF
          refine seq_yl hF (wn_none rfl) rfl rfl (yl_assign hF rfl rfl) ?_
          clear hF; intro a hF
          refine wpList_nil ?_
          refine then_n ?_
          refine c_seq ?_
          refine c_seq ?_
          refine c_region ?_
          refine seq_yl hF (wn_none rfl) rfl rfl (yl_move hF rfl rfl) ?_
          clear hF; intro a hF
          refine seq_yl hF (wn_none rfl) rfl rfl (yl_move hF rfl rfl) ?_
          clear hF; intro a hF
          refine seq_yl hF (wn_none rfl) rfl rfl (yl_lookOk (z := (r373)) (fun _ h => h ▸ hS) hF rfl rfl rfl 3 rfl Try.underlying41 Try.underlying3 Try.underlying3 zr3 hmI (by unfold i64; omega)) ?_
          clear hF; intro a hF
          refine seq_yl hF (wn_none rfl) rfl rfl (yl_move hF rfl rfl) ?_
          clear hF; intro a hF
          refine seq_yl hF (wn_none rfl) rfl rfl (yl_extract hF rfl rfl rfl) ?_
          clear hF; intro a hF
          refine seq_yl hF (wn_none rfl) rfl rfl (yl_extract hF rfl rfl rfl) ?_
          clear hF; intro a hF
          refine seq_yl hF (wn_none rfl) rfl rfl (yl_assign hF rfl rfl) ?_
          clear hF; intro a hF
          refine seq_yl hF (wn_none rfl) rfl rfl (yl_assign hF rfl rfl) ?_
          clear hF; intro a hF
          refine wpList_nil ?_
          refine then_n ?_
          refine c_seq ?_
          refine c_region ?_
          refine seq_yl hF (wn_none rfl) rfl rfl (yl_move hF rfl rfl) ?_
          clear hF; intro a hF
          refine seq_yl hF (wn_none rfl) rfl rfl (yl_un hF rfl rfl (fun _ => run_not)) ?_
          clear hF; intro a hF
          refine wpList_nil ?_
          refine then_n ?_
          refine c_cond hF rfl (fun hc390 => ?_) (fun hc390 => ?_)
          · first | (replace hc390 := of_decide_eq_true hc390) | (replace hc390 := of_decide_eq_false (bnot_t hc390)) | (replace hc390 := bnot_t hc390) | skip
            refine c_region ?_
            refine seq_yl hF (wn_none rfl) rfl rfl (yl_move hF rfl rfl) ?_
            clear hF; intro a hF
            refine seq_yl hF (wn_none rfl) rfl rfl (yl_move hF rfl rfl) ?_
            clear hF; intro a hF
            refine seq_yl hF (wn_none rfl) rfl rfl (yl_move hF rfl rfl) ?_
            clear hF; intro a hF
            refine seq_wp (wn_none rfl) (wp_mapPut (z := (r373)) (v := (((nw) + (r370)))) hF hS rfl rfl rfl rfl rfl 3 rfl Try.underlying41 Try.underlying3 Try.underlying3 hmI (by unfold i64; omega) (by unfold i64; omega) (by unfold maxLen; omega) ?_)
            clear hF hS; intro a w ob391 hF hm392 hS
            refine wpList_nil ?_
            refine then_n ?_
            refine c_seq ?_
            refine c_region ?_
            have hsf2 : SF L387 (fput mf (r373) (some (((nw) + (r370))))) := hb5 (by assumption)
            refine seq_yl hF (wn_none rfl) rfl rfl (yl_move hF rfl rfl) ?_
            clear hF; intro a hF
            replace hS := (hS.sub [1, 2, 0, 3, 4] (by decide) (by first | rfl | simp) (by simp))
            refine seq_wp (wn_none rfl) (wp_call (vs := [_, _]) hF rfl rfl rfl rfl cf7 (next_any _ _ _ _ _ _ _ (it377 : Nat) (10 : Int) (by omega) hS (by omega) (by omega)) ?_)
            clear hF; rintro _ w ⟨r393, it394, rfl, hb395, hiit394, hS1⟩ a hF; replace hS := hS1; clear hS1
            refine seq_yl hF (wn_none rfl) rfl rfl (yl_assign hF rfl rfl) ?_
            clear hF; intro a hF
            refine wpList_nil ?_
            refine then_n ?_
            refine c_seq ?_
            refine c_region ?_
            refine seq_yl hF (wn_none rfl) rfl rfl (yl_move hF rfl rfl) ?_
            clear hF; intro a hF
            refine seq_yl hF (wn_none rfl) rfl rfl (yl_move hF rfl rfl) ?_
            clear hF; intro a hF
            refine seq_yl hF (wn_none rfl) rfl rfl (yl_move hF rfl rfl) ?_
            clear hF; intro a hF
            refine seq_wp (wn_none rfl) (wp_call (vs := [_, _, _]) hF rfl rfl rfl rfl cf15 (expired_any _ L387 (((nw) + (r370))) (r393) _ (hS.rdRow 2 rfl) (by first | omega | (simp; done) | (simp; omega))) ?_)
            clear hF; rintro _ w ⟨v396, M397, rfl, hp398, hl399, hS1⟩ a hF
            replace hS := hS.callB hS1 rfl; clear hS1
            obtain ⟨Av396, cv396, rfl⟩ := hS.form 0 rfl
            refine seq_yl hF (wn_none rfl) rfl rfl (yl_assign hF rfl rfl) ?_
            clear hF; intro a hF
            refine wpList_nil ?_
            refine then_n ?_
            refine c_seq ?_
            refine c_region ?_
            refine seq_wp (wn_none rfl) (wp_makeMap hF hS rfl rfl rfl ?_)
            clear hF hS; intro a w g400 hF hS; have hm401 := mapB_new Try.prog 3 4
            refine seq_yl hF (wn_none rfl) rfl rfl (yl_assign hF rfl rfl) ?_
            clear hF; intro a hF
            refine wpList_nil ?_
            refine then_n ?_
            refine c_seq ?_
            refine c_seq ?_
            refine c_region ?_
            refine seq_yl hF (wn_none rfl) rfl rfl (yl_assign hF rfl rfl) ?_
            clear hF; intro a hF
            refine wpList_nil ?_
            refine then_n ?_
            refine wp_block ?_
            refine c_loop (fun m a w => ∃ (i : Nat) (os : Obj) (ns : Nat) (fs : Int → Bool), m = M397.length - i ∧ (i ≤ M397.length ∧ MapB Try.prog 3 4 os ns fs ∧ ns ≤ i ∧ (∀ y, fs y = true ↔ y ∈ M397.take i)) ∧ Fr 165 a [(3, .pointer (some ⟨g364, 0, none⟩)), (4, .slice Av386 (L387).length cv386), (5, .map (some g365)), (6, .int .i64 (((nw) + (r370)))), (7, .int .i64 ((n : Nat) : Int)), (17, .int .i64 (r393)), (18, .slice Av396 (M397).length cv396), (19, .map (some g400)), (20, .int .i64 ((i : Nat) : Int))] ∧ Sat w0 w (.box g364 25 #[.slice Av (L).length cv, .int .i64 ((it394 : Nat) : Int)] :: .ro 1 (.slice Av (L).length cv) (L).length (cells encI (L)) :: .obj g365 ob391 :: .row 44 2 (.slice Av386 (L387).length cv386) (L387).length (cells enc44 (L387)) :: .row 3 1 (.slice Av396 (M397).length cv396) (M397).length (cells encI (M397)) :: .obj g400 os :: [])) (M397.length - 0) ?_ ?_
            · exact ⟨0, _, 0, _, rfl, ⟨by omega, hm401, by omega, by simp⟩, hF.to [3, 4, 5, 6, 7, 17, 18, 19, 20] rfl, (hS.sub [2, 3, 5, 4, 1, 0] (by decide) (by first | rfl | simp) (by simp))⟩
            · clear hF hS; try clear hSS
              clear a w; rintro m a w ⟨i, os, ns, fs, rfl, hinv, hF, hS⟩
              obtain ⟨hid, hmB, hns, hsn⟩ := hinv
              refine c_seq ?_
              refine c_seq ?_
              refine c_region ?_
              refine seq_yl hF (wn_none rfl) rfl rfl (yl_move hF rfl rfl) ?_
              clear hF; intro a hF
              refine seq_yl hF (wn_none rfl) rfl rfl (yl_move hF rfl rfl) ?_
              clear hF; intro a hF
              refine seq_yl hF (wn_none rfl) rfl rfl (yl_len hF rfl rfl (fun _ => run_lenRd sl22 (hS.rdRow 4 rfl))) ?_
              clear hF; intro a hF
              refine seq_yl hF (wn_none rfl) rfl rfl (yl_bin hF rfl rfl rfl rfl (fun _ => run_lss)) ?_
              clear hF; intro a hF
              refine wpList_nil ?_
              refine then_n ?_
              refine c_cond hF rfl (fun hc402 => ?_) (fun hc402 => ?_)
              · first | (replace hc402 := of_decide_eq_true hc402) | (replace hc402 := of_decide_eq_false (bnot_t hc402)) | (replace hc402 := bnot_t hc402) | skip
                refine wp_skip ?_
                refine then_n ?_
                refine c_seq ?_
                refine wp_block ?_
                refine c_seq ?_
                refine c_region ?_
                refine seq_yl hF (wn_none rfl) rfl rfl (yl_move hF rfl rfl) ?_
                clear hF; intro a hF
                refine seq_yl hF (wn_none rfl) rfl rfl (yl_move hF rfl rfl) ?_
                clear hF; intro a hF
                refine seq_yl hF (wn_none rfl) rfl rfl (yl_move hF rfl rfl) ?_
                clear hF; intro a hF
                have hlt_hx403 : i < (M397).length := by first | omega | (simp; done) | (simp; omega)
                obtain ⟨ad404, rfl⟩ := rd_some (hS.rdRow 4 rfl) hlt_hx403
                obtain ⟨x403, hx403⟩ := get_some hlt_hx403
                refine seq_yl hF (wn_none rfl) rfl rfl (yl_indexAddr hF rfl rfl rfl (fun _ => run_idx' sl22 sz3 (hS.rdRow 4 rfl) hlt_hx403)) ?_
                clear hF; intro a hF
                refine seq_yl hF (wn_none rfl) rfl rfl (yl_loadAt hF rfl rfl ag3 (fun _ h => rd_cell0 (enc := encI) (by subst h; exact hS.rdRow 4 rfl) encI_len hx403 rfl rfl)) ?_
                clear hF; intro a hF
                obtain ⟨c9, hc9, hage, hx7, hc7, hxn, hprev⟩ := due_at hb1 hsf2 (by omega) (by omega) hp398 hx403
                refine seq_yl hF (wn_none rfl) rfl rfl (yl_lookOk (z := (x403)) (fun _ h => h ▸ hS) hF rfl rfl rfl 2 rfl Try.underlying41 Try.underlying3 Try.underlying3 zr3 hm392 (by unfold i64; omega)) ?_
                clear hF; intro a hF
                refine seq_yl hF (wn_none rfl) rfl rfl (yl_move hF rfl rfl) ?_
                clear hF; intro a hF
                refine seq_yl hF (wn_none rfl) rfl rfl (yl_extract hF rfl rfl rfl) ?_
                clear hF; intro a hF
                replace hF := fr_seti (b' := (c9)) hF (by rw [hc9]; rfl)
                refine seq_yl hF (wn_none rfl) rfl rfl (yl_extract hF rfl rfl rfl) ?_
                clear hF; intro a hF
                replace hF := fr_set (b' := true) hF (by rw [hc9]; rfl)
                refine seq_yl hF (wn_none rfl) rfl rfl (yl_assign hF rfl rfl) ?_
                clear hF; intro a hF
                refine seq_yl hF (wn_none rfl) rfl rfl (yl_assign hF rfl rfl) ?_
                clear hF; intro a hF
                refine wpList_nil ?_
                refine then_n ?_
                refine c_seq ?_
                refine c_seq ?_
                refine c_region ?_
                refine seq_yl hF (wn_none rfl) rfl rfl (yl_move hF rfl rfl) ?_
                clear hF; intro a hF
                refine seq_yl hF (wn_none rfl) rfl rfl (yl_un hF rfl rfl (fun _ => run_not)) ?_
                clear hF; intro a hF
                refine seq_yl hF (wn_none rfl) rfl rfl (yl_move hF rfl rfl) ?_
                clear hF; intro a hF
                refine seq_yl hF (wn_t hF rfl rfl rfl rfl) rfl rfl (yl_move hF rfl rfl) ?_
                clear hF; intro a hF
                refine seq_yl hF (wn_t hF rfl rfl rfl rfl) rfl rfl (yl_move hF rfl rfl) ?_
                clear hF; intro a hF
                refine seq_yl hF (wn_t hF rfl rfl rfl rfl) rfl rfl (yl_bin hF rfl rfl rfl rfl (fun _ => run_sub (by refine ⟨?_, ?_⟩ <;> omega))) ?_
                clear hF; intro a hF
                refine seq_yl hF (wn_t hF rfl rfl rfl rfl) rfl rfl (yl_move hF rfl rfl) ?_
                clear hF; intro a hF
                refine seq_yl hF (wn_t hF rfl rfl rfl rfl) rfl rfl (yl_bin hF rfl rfl rfl rfl (fun _ => run_lss)) ?_
                clear hF; intro a hF
                replace hF := fr_set (b' := false) hF (by rw [decide_eq_false_iff_not]; omega)
                refine seq_yl hF (wn_none rfl) rfl rfl (yl_pick (u := _) (v := undef) hF rfl rfl (fun h => by cases h) (fun _ => rfl)) ?_
                clear hF; intro a hF
                refine seq_yl hF (wn_none rfl) rfl rfl (yl_move hF rfl rfl) ?_
                clear hF; intro a hF
                refine seq_yl hF (wn_t hF rfl rfl rfl rfl) rfl rfl (yl_move hF rfl rfl) ?_
                clear hF; intro a hF
                refine seq_yl hF (wn_t hF rfl rfl rfl rfl) rfl rfl (yl_move hF rfl rfl) ?_
                clear hF; intro a hF
                refine seq_yl hF (wn_t hF rfl rfl rfl rfl) rfl rfl (yl_move hF rfl rfl) ?_
                clear hF; intro a hF
                refine seq_yl hF (wn_t hF rfl rfl rfl rfl) rfl rfl (yl_indexAddr hF rfl rfl rfl (fun _ => run_idx' sl22 sz3 (hS.rdRow 4 rfl) hlt_hx403)) ?_
                clear hF; intro a hF
                refine seq_yl hF (wn_t hF rfl rfl rfl rfl) rfl rfl (yl_loadAt hF rfl rfl ag3 (fun _ h => rd_cell0 (enc := encI) (by subst h; exact hS.rdRow 4 rfl) encI_len hx403 rfl rfl)) ?_
                clear hF; intro a hF
                refine seq_yl hF (wn_t hF rfl rfl rfl rfl) rfl rfl (yl_lookB (z := (x403)) (fun _ h => h ▸ hS) hF rfl rfl rfl 5 rfl Try.underlying42 Try.underlying3 Try.underlying4 zr4 hmB (by unfold i64; omega)) ?_
                clear hF; intro a hF
                replace hF := fr_set (b' := false) hF (seen_no hsn hxn)
                refine seq_yl hF (wn_none rfl) rfl rfl (yl_pick (u := _) (v := undef) hF rfl rfl (fun h => by cases h) (fun _ => rfl)) ?_
                clear hF; intro a hF
                refine seq_yl hF (wn_none rfl) rfl rfl (yl_move hF rfl rfl) ?_
                clear hF; intro a hF
                refine seq_yl hF (wn_t hF rfl rfl rfl rfl) rfl rfl (yl_move hF rfl rfl) ?_
                clear hF; intro a hF
                refine seq_yl hF (wn_t hF rfl rfl rfl rfl) rfl rfl (yl_bin hF rfl rfl rfl rfl (fun _ => run_gtr)) ?_
                clear hF; intro a hF
                refine seq_yl hF (wn_t hF rfl rfl rfl rfl) rfl rfl (yl_move hF rfl rfl) ?_
                clear hF; intro a hF
                refine fr_split hF (fun hc405 hF => ?_) (fun hc405 hF => ?_)
                · first | (replace hc405 := of_decide_eq_true hc405) | (replace hc405 := of_decide_eq_false (bnot_t hc405)) | (replace hc405 := bnot_t hc405) | skip
                  refine seq_yl hF (wn_t hF rfl rfl rfl rfl) rfl rfl (yl_move hF rfl rfl) ?_
                  clear hF; intro a hF
                  refine seq_yl hF (wn_t hF rfl rfl rfl rfl) rfl rfl (yl_move hF rfl rfl) ?_
                  clear hF; intro a hF
                  refine seq_yl hF (wn_t hF rfl rfl rfl rfl) rfl rfl (yl_move hF rfl rfl) ?_
                  clear hF; intro a hF
                  refine seq_yl hF (wn_t hF rfl rfl rfl rfl) rfl rfl (yl_move hF rfl rfl) ?_
                  clear hF; intro a hF
                  refine seq_yl hF (wn_t hF rfl rfl rfl rfl) rfl rfl (yl_bin hF rfl rfl rfl rfl (fun _ => run_dec (c := 1) (by omega) (by omega))) ?_
                  clear hF; intro a hF
                  have hlt_hx406 : (i - 1) < (M397).length := by first | omega | (simp; done) | (simp; omega)
                  obtain ⟨x406, hx406⟩ := get_some hlt_hx406
                  refine seq_yl hF (wn_t hF rfl rfl rfl rfl) rfl rfl (yl_indexAddr hF rfl rfl rfl (fun _ => run_idx' sl22 sz3 (hS.rdRow 4 rfl) hlt_hx406)) ?_
                  clear hF; intro a hF
                  refine seq_yl hF (wn_t hF rfl rfl rfl rfl) rfl rfl (yl_loadAt hF rfl rfl ag3 (fun _ h => rd_cell0 (enc := encI) (by subst h; exact hS.rdRow 4 rfl) encI_len hx406 rfl rfl)) ?_
                  clear hF; intro a hF
                  obtain ⟨d9, hd9, hdc, hy7⟩ := hprev _ _ (by omega) hx406
                  refine seq_yl hF (wn_t hF rfl rfl rfl rfl) rfl rfl (yl_look (z := (x406)) (fun _ h => h ▸ hS) hF rfl rfl rfl 2 rfl Try.underlying41 Try.underlying3 Try.underlying3 zr3 hm392 (by unfold i64; omega)) ?_
                  clear hF; intro a hF
                  replace hF := fr_seti (b' := (d9)) hF (by rw [hd9]; rfl)
                  refine seq_yl hF (wn_t hF rfl rfl rfl rfl) rfl rfl (yl_bin hF rfl rfl rfl rfl (fun _ => run_lss)) ?_
                  clear hF; intro a hF
                  replace hF := fr_set (b' := false) hF (by rw [decide_eq_false_iff_not]; omega)
                  refine seq_yl hF (wn_t hF rfl rfl rfl rfl) rfl rfl (yl_pick (u := _) (v := undef) hF rfl rfl (fun _ => rfl) (fun h => by cases h)) ?_
                  clear hF; intro a hF
                  refine seq_yl hF (wn_none rfl) rfl rfl (yl_pick (u := _) (v := undef) hF rfl rfl (fun h => by cases h) (fun _ => rfl)) ?_
                  clear hF; intro a hF
                  refine wpList_nil ?_
                  refine then_n ?_
                  refine c_cond_f hF rfl ?_
                  refine wp_skip ?_
                  refine then_n ?_
                  refine c_region ?_
                  refine seq_yl hF (wn_none rfl) rfl rfl (yl_move hF rfl rfl) ?_
                  clear hF; intro a hF
                  refine seq_yl hF (wn_none rfl) rfl rfl (yl_move hF rfl rfl) ?_
                  clear hF; intro a hF
                  refine seq_yl hF (wn_none rfl) rfl rfl (yl_move hF rfl rfl) ?_
                  clear hF; intro a hF
                  refine seq_yl hF (wn_none rfl) rfl rfl (yl_indexAddr hF rfl rfl rfl (fun _ => run_idx' sl22 sz3 (hS.rdRow 4 rfl) hlt_hx403)) ?_
                  clear hF; intro a hF
                  refine seq_yl hF (wn_none rfl) rfl rfl (yl_loadAt hF rfl rfl ag3 (fun _ h => rd_cell0 (enc := encI) (by subst h; exact hS.rdRow 4 rfl) encI_len hx403 rfl rfl)) ?_
                  clear hF; intro a hF
                  refine seq_wp (wn_none rfl) (wp_mapPutB (z := (x403)) (v := true) hF hS rfl rfl rfl rfl rfl 5 rfl Try.underlying42 Try.underlying3 Try.underlying4 hmB (by unfold i64; omega) (by unfold maxLen; omega) ?_)
                  clear hF hS; intro a w ob407 hF hm408 hS
                  refine wpList_nil ?_
                  refine inb_n ?_
                  refine then_n ?_
                  refine c_region ?_
                  refine seq_yl hF (wn_none rfl) rfl rfl (yl_move hF rfl rfl) ?_
                  clear hF; intro a hF
                  refine seq_yl hF (wn_none rfl) rfl rfl (yl_bin hF rfl rfl rfl rfl (fun _ => run_inc (by omega))) ?_
                  clear hF; intro a hF
                  refine seq_yl hF (wn_none rfl) rfl rfl (yl_assign hF rfl rfl) ?_
                  clear hF; intro a hF
                  refine wpList_nil ?_
                  refine then_n ?_
                  exact ⟨_, (by omega), i + 1, ob407, (ns + 1), (fput fs (x403) true), rfl, ⟨by omega, hm408, by omega, seen_step hsn hx403⟩, hF.to [3, 4, 5, 6, 7, 17, 18, 19, 20] rfl, (hS.sub [0, 1, 2, 3, 4, 5] (by decide) (by first | rfl | simp) (by simp))⟩
                · first | (replace hc405 := of_decide_eq_false hc405) | (replace hc405 := of_decide_eq_true (bnot_f hc405)) | (replace hc405 := bnot_f hc405) | skip
                  refine seq_skip hF (wn_f hF rfl rfl rfl rfl) rfl rfl ?_
                  clear hF; intro a hF
                  refine seq_skip hF (wn_f hF rfl rfl rfl rfl) rfl rfl ?_
                  clear hF; intro a hF
                  refine seq_skip hF (wn_f hF rfl rfl rfl rfl) rfl rfl ?_
                  clear hF; intro a hF
                  refine seq_skip hF (wn_f hF rfl rfl rfl rfl) rfl rfl ?_
                  clear hF; intro a hF
                  refine seq_skip hF (wn_f hF rfl rfl rfl rfl) rfl rfl ?_
                  clear hF; intro a hF
                  refine seq_skip hF (wn_f hF rfl rfl rfl rfl) rfl rfl ?_
                  clear hF; intro a hF
                  refine seq_skip hF (wn_f hF rfl rfl rfl rfl) rfl rfl ?_
                  clear hF; intro a hF
                  refine seq_skip hF (wn_f hF rfl rfl rfl rfl) rfl rfl ?_
                  clear hF; intro a hF
                  refine seq_skip hF (wn_f hF rfl rfl rfl rfl) rfl rfl ?_
                  clear hF; intro a hF
                  refine seq_yl hF (wn_t hF rfl rfl rfl rfl) rfl rfl (yl_pick (u := _) (v := undef) hF rfl rfl (fun h => by cases h) (fun _ => rfl)) ?_
                  clear hF; intro a hF
                  refine seq_yl hF (wn_none rfl) rfl rfl (yl_pick (u := _) (v := undef) hF rfl rfl (fun h => by cases h) (fun _ => rfl)) ?_
                  clear hF; intro a hF
                  refine wpList_nil ?_
                  refine then_n ?_
                  refine c_cond_f hF rfl ?_
                  refine wp_skip ?_
                  refine then_n ?_
                  refine c_region ?_
                  refine seq_yl hF (wn_none rfl) rfl rfl (yl_move hF rfl rfl) ?_
                  clear hF; intro a hF
                  refine seq_yl hF (wn_none rfl) rfl rfl (yl_move hF rfl rfl) ?_
                  clear hF; intro a hF
                  refine seq_yl hF (wn_none rfl) rfl rfl (yl_move hF rfl rfl) ?_
                  clear hF; intro a hF
                  refine seq_yl hF (wn_none rfl) rfl rfl (yl_indexAddr hF rfl rfl rfl (fun _ => run_idx' sl22 sz3 (hS.rdRow 4 rfl) hlt_hx403)) ?_
                  clear hF; intro a hF
                  refine seq_yl hF (wn_none rfl) rfl rfl (yl_loadAt hF rfl rfl ag3 (fun _ h => rd_cell0 (enc := encI) (by subst h; exact hS.rdRow 4 rfl) encI_len hx403 rfl rfl)) ?_
                  clear hF; intro a hF
                  refine seq_wp (wn_none rfl) (wp_mapPutB (z := (x403)) (v := true) hF hS rfl rfl rfl rfl rfl 5 rfl Try.underlying42 Try.underlying3 Try.underlying4 hmB (by unfold i64; omega) (by unfold maxLen; omega) ?_)
                  clear hF hS; intro a w ob409 hF hm410 hS
                  refine wpList_nil ?_
                  refine inb_n ?_
                  refine then_n ?_
                  refine c_region ?_
                  refine seq_yl hF (wn_none rfl) rfl rfl (yl_move hF rfl rfl) ?_
                  clear hF; intro a hF
                  refine seq_yl hF (wn_none rfl) rfl rfl (yl_bin hF rfl rfl rfl rfl (fun _ => run_inc (by omega))) ?_
                  clear hF; intro a hF
                  refine seq_yl hF (wn_none rfl) rfl rfl (yl_assign hF rfl rfl) ?_
                  clear hF; intro a hF
                  refine wpList_nil ?_
                  refine then_n ?_
                  exact ⟨_, (by omega), i + 1, ob409, (ns + 1), (fput fs (x403) true), rfl, ⟨by omega, hm410, by omega, seen_step hsn hx403⟩, hF.to [3, 4, 5, 6, 7, 17, 18, 19, 20] rfl, (hS.sub [0, 1, 2, 3, 4, 5] (by decide) (by first | rfl | simp) (by simp))⟩
              · first | (replace hc402 := of_decide_eq_false hc402) | (replace hc402 := of_decide_eq_true (bnot_f hc402)) | (replace hc402 := bnot_f hc402) | skip
                refine wp_exit ?_
                refine then_x ?_
                refine then_x ?_
                refine inb_x ?_
                refine then_n ?_
                refine c_seq ?_
                refine c_region ?_
                refine seq_yl hF (wn_none rfl) rfl rfl (yl_move hF rfl rfl) ?_
                clear hF; intro a hF
                refine seq_wp (wn_none rfl) (wp_range hF hS rfl rfl rfl rfl 2 rfl Try.underlying41 Try.underlying3 hm392 ?_)
                clear hF hS; intro a w g411 it412 cnt413 hF hR414 hS
                refine wpList_nil ?_
                refine then_n ?_
                refine wp_block ?_
                refine c_loop (fun m a w => ∃ (jt : Obj) (cnt : Nat), m = cnt ∧ (Rg Try.prog 3 3 w g365 g411 (mn + 1) (fput mf (r373) (some (((nw) + (r370))))) cnt) ∧ Fr 165 a [(3, .pointer (some ⟨g364, 0, none⟩)), (4, .slice Av386 (L387).length cv386), (5, .map (some g365)), (6, .int .i64 (((nw) + (r370)))), (7, .int .i64 ((n : Nat) : Int)), (17, .int .i64 (r393)), (19, .map (some g400)), (147, .pointer (some ⟨g411, 0, none⟩))] ∧ Sat w0 w (.box g364 25 #[.slice Av (L).length cv, .int .i64 ((it394 : Nat) : Int)] :: .ro 1 (.slice Av (L).length cv) (L).length (cells encI (L)) :: .obj g365 ob391 :: .row 44 2 (.slice Av386 (L387).length cv386) (L387).length (cells enc44 (L387)) :: .obj g400 os :: .obj g411 jt :: [])) (cnt413) ?_ ?_
                · exact ⟨it412, cnt413, rfl, hR414, hF.to [3, 4, 5, 6, 7, 17, 19, 147] rfl, (hS.sub [1, 2, 3, 4, 6, 0] (by decide) (by first | rfl | simp) (by simp))⟩
                · clear hF hS; try clear hSS
                  clear hR414; clear a w; rintro m a w ⟨jt, cnt, rfl, hinv, hF, hS⟩
                  have hR := hinv
                  refine c_seq ?_
                  refine c_region ?_
                  refine seq_wp (wn_none rfl) (wp_next hF hS rfl rfl rfl rfl 5 rfl Try.underlying3 Try.underlying3 hR ?_ ?_)
                  · clear hF; intro a hF
                    refine seq_yl hF (wn_none rfl) rfl rfl (yl_extract hF rfl rfl rfl) ?_
                    clear hF; intro a hF
                    refine wpList_nil ?_
                    refine then_n ?_
                    refine c_seq ?_
                    refine c_cond_f hF rfl ?_
                    refine wp_exit ?_
                    refine then_x ?_
                    refine then_x ?_
                    refine inb_x ?_
                    refine inb_n ?_
                    refine then_n ?_
                    refine c_region ?_
                    refine seq_yl hF (wn_none rfl) rfl rfl (yl_move hF rfl rfl) ?_
                    clear hF; intro a hF
                    refine seq_yl hF (wn_none rfl) rfl rfl (yl_bin hF rfl rfl rfl rfl (fun _ => run_inc (by omega))) ?_
                    clear hF; intro a hF
                    refine seq_yl hF (wn_none rfl) rfl rfl (yl_assign hF rfl rfl) ?_
                    clear hF; intro a hF
                    refine wpList_nil ?_
                    refine then_n ?_
                    exact ⟨_, (by omega), n + 1, it394, (((nw) + (r370))), L387, ob391, (mn + 1), (fput mf (r373) (some (((nw) + (r370))))), Av386, cv386, rfl, ⟨by omega, by omega, by omega, hb1, hb2, by omega, hsf2, hm392, by omega⟩, hF.to [3, 4, 5, 6, 7] rfl, (hS.sub [0, 1, 2, 3] (by decide) (by first | rfl | simp) (by simp))⟩
                  · clear hF hS; intro a w it415 cnt416 ky417 kc418 hF hky419 hkc420 hkf421 hkl422 hR423 hen424 hS
                    refine seq_yl hF (wn_none rfl) rfl rfl (yl_extract hF rfl rfl rfl) ?_
                    clear hF; intro a hF
                    refine wpList_nil ?_
                    refine then_n ?_
                    refine c_seq ?_
                    refine c_cond_t hF rfl ?_
                    refine wp_skip ?_
                    refine then_n ?_
                    refine wp_block ?_
                    refine c_seq ?_
                    refine c_region ?_
                    refine seq_yl hF (wn_none rfl) rfl rfl (yl_entry hF rfl rfl hen424) ?_
                    clear hF; intro a hF
                    refine seq_yl hF (wn_none rfl) rfl rfl (yl_extract hF rfl rfl rfl) ?_
                    clear hF; intro a hF
                    refine seq_yl hF (wn_none rfl) rfl rfl (yl_extract hF rfl rfl rfl) ?_
                    clear hF; intro a hF
                    refine seq_yl hF (wn_none rfl) rfl rfl (yl_assign hF rfl rfl) ?_
                    clear hF; intro a hF
                    refine seq_yl hF (wn_none rfl) rfl rfl (yl_assign hF rfl rfl) ?_
                    clear hF; intro a hF
                    refine wpList_nil ?_
                    refine then_n ?_
                    refine c_seq ?_
                    refine c_region ?_
                    have hcb := sf_bd hb1 hsf2 hkf421
                    refine seq_yl hF (wn_none rfl) rfl rfl (yl_move hF rfl rfl) ?_
                    clear hF; intro a hF
                    refine seq_yl hF (wn_none rfl) rfl rfl (yl_move hF rfl rfl) ?_
                    clear hF; intro a hF
                    refine seq_yl hF (wn_none rfl) rfl rfl (yl_bin hF rfl rfl rfl rfl (fun _ => run_sub (by refine ⟨?_, ?_⟩ <;> omega))) ?_
                    clear hF; intro a hF
                    refine seq_yl hF (wn_none rfl) rfl rfl (yl_move hF rfl rfl) ?_
                    clear hF; intro a hF
                    refine seq_yl hF (wn_none rfl) rfl rfl (yl_bin hF rfl rfl rfl rfl (fun _ => run_geq)) ?_
                    clear hF; intro a hF
                    refine seq_yl hF (wn_none rfl) rfl rfl (yl_move hF rfl rfl) ?_
                    clear hF; intro a hF
                    refine fr_split hF (fun hc425 hF => ?_) (fun hc425 hF => ?_)
                    · first | (replace hc425 := of_decide_eq_true hc425) | (replace hc425 := of_decide_eq_false (bnot_t hc425)) | (replace hc425 := bnot_t hc425) | skip
                      refine seq_yl hF (wn_t hF rfl rfl rfl rfl) rfl rfl (yl_move hF rfl rfl) ?_
                      clear hF; intro a hF
                      refine seq_yl hF (wn_t hF rfl rfl rfl rfl) rfl rfl (yl_move hF rfl rfl) ?_
                      clear hF; intro a hF
                      refine seq_yl hF (wn_t hF rfl rfl rfl rfl) rfl rfl (yl_lookB (z := (ky417)) (fun _ h => h ▸ hS) hF rfl rfl rfl 4 rfl Try.underlying42 Try.underlying3 Try.underlying4 zr4 hmB (by unfold i64; omega)) ?_
                      clear hF; intro a hF
                      replace hF := fr_set (b' := true) hF (seen_all hsn (by omega) (due_mem hb1 hsf2 (by omega) (by omega) hp398 hkf421 (by omega)))
                      refine seq_yl hF (wn_t hF rfl rfl rfl rfl) rfl rfl (yl_un hF rfl rfl (fun _ => run_not)) ?_
                      clear hF; intro a hF
                      refine seq_yl hF (wn_none rfl) rfl rfl (yl_pick (u := _) (v := undef) hF rfl rfl (fun _ => rfl) (fun h => by cases h)) ?_
                      clear hF; intro a hF
                      refine wpList_nil ?_
                      refine then_n ?_
                      refine c_cond_f hF rfl ?_
                      refine wp_skip ?_
                      refine inb_n ?_
                      refine then_n ?_
                      exact ⟨_, (by omega), it415, cnt416, rfl, hR423, hF.to [3, 4, 5, 6, 7, 17, 19, 147] rfl, (hS.sub [0, 1, 2, 3, 4, 5] (by decide) (by first | rfl | simp) (by simp))⟩
                    · first | (replace hc425 := of_decide_eq_false hc425) | (replace hc425 := of_decide_eq_true (bnot_f hc425)) | (replace hc425 := bnot_f hc425) | skip
                      refine seq_skip hF (wn_f hF rfl rfl rfl rfl) rfl rfl ?_
                      clear hF; intro a hF
                      refine seq_skip hF (wn_f hF rfl rfl rfl rfl) rfl rfl ?_
                      clear hF; intro a hF
                      refine seq_skip hF (wn_f hF rfl rfl rfl rfl) rfl rfl ?_
                      clear hF; intro a hF
                      refine seq_skip hF (wn_f hF rfl rfl rfl rfl) rfl rfl ?_
                      clear hF; intro a hF
                      refine seq_yl hF (wn_none rfl) rfl rfl (yl_pick (u := _) (v := undef) hF rfl rfl (fun h => by cases h) (fun _ => rfl)) ?_
                      clear hF; intro a hF
                      refine wpList_nil ?_
                      refine then_n ?_
                      refine c_cond_f hF rfl ?_
                      refine wp_skip ?_
                      refine inb_n ?_
                      refine then_n ?_
                      exact ⟨_, (by omega), it415, cnt416, rfl, hR423, hF.to [3, 4, 5, 6, 7, 17, 19, 147] rfl, (hS.sub [0, 1, 2, 3, 4, 5] (by decide) (by first | rfl | simp) (by simp))⟩
          · first | (replace hc390 := of_decide_eq_false hc390) | (replace hc390 := of_decide_eq_true (bnot_f hc390)) | (replace hc390 := bnot_f hc390) | skip
            refine wp_skip ?_
            refine then_n ?_
            refine c_seq ?_
            refine c_region ?_
            have hsf2 : SF L387 mf := hb4 (by assumption)
            refine seq_yl hF (wn_none rfl) rfl rfl (yl_move hF rfl rfl) ?_
            clear hF; intro a hF
            replace hS := (hS.sub [1, 2, 0, 3, 4] (by decide) (by first | rfl | simp) (by simp))
            refine seq_wp (wn_none rfl) (wp_call (vs := [_, _]) hF rfl rfl rfl rfl cf7 (next_any _ _ _ _ _ _ _ (it377 : Nat) (10 : Int) (by omega) hS (by omega) (by omega)) ?_)
            clear hF; rintro _ w ⟨r426, it427, rfl, hb428, hiit427, hS1⟩ a hF; replace hS := hS1; clear hS1
            refine seq_yl hF (wn_none rfl) rfl rfl (yl_assign hF rfl rfl) ?_
            clear hF; intro a hF
            refine wpList_nil ?_
            refine then_n ?_
            refine c_seq ?_
            refine c_region ?_
            refine seq_yl hF (wn_none rfl) rfl rfl (yl_move hF rfl rfl) ?_
            clear hF; intro a hF
            refine seq_yl hF (wn_none rfl) rfl rfl (yl_move hF rfl rfl) ?_
            clear hF; intro a hF
            refine seq_yl hF (wn_none rfl) rfl rfl (yl_move hF rfl rfl) ?_
            clear hF; intro a hF
            refine seq_wp (wn_none rfl) (wp_call (vs := [_, _, _]) hF rfl rfl rfl rfl cf15 (expired_any _ L387 (((nw) + (r370))) (r426) _ (hS.rdRow 2 rfl) (by first | omega | (simp; done) | (simp; omega))) ?_)
            clear hF; rintro _ w ⟨v429, M430, rfl, hp431, hl432, hS1⟩ a hF
            replace hS := hS.callB hS1 rfl; clear hS1
            obtain ⟨Av429, cv429, rfl⟩ := hS.form 0 rfl
            refine seq_yl hF (wn_none rfl) rfl rfl (yl_assign hF rfl rfl) ?_
            clear hF; intro a hF
            refine wpList_nil ?_
            refine then_n ?_
            refine c_seq ?_
            refine c_region ?_
            refine seq_wp (wn_none rfl) (wp_makeMap hF hS rfl rfl rfl ?_)
            clear hF hS; intro a w g433 hF hS; have hm434 := mapB_new Try.prog 3 4
            refine seq_yl hF (wn_none rfl) rfl rfl (yl_assign hF rfl rfl) ?_
            clear hF; intro a hF
            refine wpList_nil ?_
            refine then_n ?_
            refine c_seq ?_
            refine c_seq ?_
            refine c_region ?_
            refine seq_yl hF (wn_none rfl) rfl rfl (yl_assign hF rfl rfl) ?_
            clear hF; intro a hF
            refine wpList_nil ?_
            refine then_n ?_
            refine wp_block ?_
            refine c_loop (fun m a w => ∃ (i : Nat) (os : Obj) (ns : Nat) (fs : Int → Bool), m = M430.length - i ∧ (i ≤ M430.length ∧ MapB Try.prog 3 4 os ns fs ∧ ns ≤ i ∧ (∀ y, fs y = true ↔ y ∈ M430.take i)) ∧ Fr 165 a [(3, .pointer (some ⟨g364, 0, none⟩)), (4, .slice Av386 (L387).length cv386), (5, .map (some g365)), (6, .int .i64 (((nw) + (r370)))), (7, .int .i64 ((n : Nat) : Int)), (17, .int .i64 (r426)), (18, .slice Av429 (M430).length cv429), (19, .map (some g433)), (20, .int .i64 ((i : Nat) : Int))] ∧ Sat w0 w (.box g364 25 #[.slice Av (L).length cv, .int .i64 ((it427 : Nat) : Int)] :: .ro 1 (.slice Av (L).length cv) (L).length (cells encI (L)) :: .obj g365 om :: .row 44 2 (.slice Av386 (L387).length cv386) (L387).length (cells enc44 (L387)) :: .row 3 1 (.slice Av429 (M430).length cv429) (M430).length (cells encI (M430)) :: .obj g433 os :: [])) (M430.length - 0) ?_ ?_
            · exact ⟨0, _, 0, _, rfl, ⟨by omega, hm434, by omega, by simp⟩, hF.to [3, 4, 5, 6, 7, 17, 18, 19, 20] rfl, (hS.sub [2, 3, 5, 4, 1, 0] (by decide) (by first | rfl | simp) (by simp))⟩
            · clear hF hS; try clear hSS
              clear a w; rintro m a w ⟨i, os, ns, fs, rfl, hinv, hF, hS⟩
              obtain ⟨hid, hmB, hns, hsn⟩ := hinv
              refine c_seq ?_
              refine c_seq ?_
              refine c_region ?_
              refine seq_yl hF (wn_none rfl) rfl rfl (yl_move hF rfl rfl) ?_
              clear hF; intro a hF
              refine seq_yl hF (wn_none rfl) rfl rfl (yl_move hF rfl rfl) ?_
              clear hF; intro a hF
              refine seq_yl hF (wn_none rfl) rfl rfl (yl_len hF rfl rfl (fun _ => run_lenRd sl22 (hS.rdRow 4 rfl))) ?_
              clear hF; intro a hF
              refine seq_yl hF (wn_none rfl) rfl rfl (yl_bin hF rfl rfl rfl rfl (fun _ => run_lss)) ?_
              clear hF; intro a hF
              refine wpList_nil ?_
              refine then_n ?_
              refine c_cond hF rfl (fun hc435 => ?_) (fun hc435 => ?_)
              · first | (replace hc435 := of_decide_eq_true hc435) | (replace hc435 := of_decide_eq_false (bnot_t hc435)) | (replace hc435 := bnot_t hc435) | skip
                refine wp_skip ?_
                refine then_n ?_
                refine c_seq ?_
                refine wp_block ?_
                refine c_seq ?_
                refine c_region ?_
                refine seq_yl hF (wn_none rfl) rfl rfl (yl_move hF rfl rfl) ?_
                clear hF; intro a hF
                refine seq_yl hF (wn_none rfl) rfl rfl (yl_move hF rfl rfl) ?_
                clear hF; intro a hF
                refine seq_yl hF (wn_none rfl) rfl rfl (yl_move hF rfl rfl) ?_
                clear hF; intro a hF
                have hlt_hx436 : i < (M430).length := by first | omega | (simp; done) | (simp; omega)
                obtain ⟨ad437, rfl⟩ := rd_some (hS.rdRow 4 rfl) hlt_hx436
                obtain ⟨x436, hx436⟩ := get_some hlt_hx436
                refine seq_yl hF (wn_none rfl) rfl rfl (yl_indexAddr hF rfl rfl rfl (fun _ => run_idx' sl22 sz3 (hS.rdRow 4 rfl) hlt_hx436)) ?_
                clear hF; intro a hF
                refine seq_yl hF (wn_none rfl) rfl rfl (yl_loadAt hF rfl rfl ag3 (fun _ h => rd_cell0 (enc := encI) (by subst h; exact hS.rdRow 4 rfl) encI_len hx436 rfl rfl)) ?_
                clear hF; intro a hF
                obtain ⟨c9, hc9, hage, hx7, hc7, hxn, hprev⟩ := due_at hb1 hsf2 (by omega) (by omega) hp431 hx436
                refine seq_yl hF (wn_none rfl) rfl rfl (yl_lookOk (z := (x436)) (fun _ h => h ▸ hS) hF rfl rfl rfl 2 rfl Try.underlying41 Try.underlying3 Try.underlying3 zr3 hmI (by unfold i64; omega)) ?_
                clear hF; intro a hF
                refine seq_yl hF (wn_none rfl) rfl rfl (yl_move hF rfl rfl) ?_
                clear hF; intro a hF
                refine seq_yl hF (wn_none rfl) rfl rfl (yl_extract hF rfl rfl rfl) ?_
                clear hF; intro a hF
                replace hF := fr_seti (b' := (c9)) hF (by rw [hc9]; rfl)
                refine seq_yl hF (wn_none rfl) rfl rfl (yl_extract hF rfl rfl rfl) ?_
                clear hF; intro a hF
                replace hF := fr_set (b' := true) hF (by rw [hc9]; rfl)
                refine seq_yl hF (wn_none rfl) rfl rfl (yl_assign hF rfl rfl) ?_
                clear hF; intro a hF
                refine seq_yl hF (wn_none rfl) rfl rfl (yl_assign hF rfl rfl) ?_
                clear hF; intro a hF
                refine wpList_nil ?_
                refine then_n ?_
                refine c_seq ?_
                refine c_seq ?_
                refine c_region ?_
                refine seq_yl hF (wn_none rfl) rfl rfl (yl_move hF rfl rfl) ?_
                clear hF; intro a hF
                refine seq_yl hF (wn_none rfl) rfl rfl (yl_un hF rfl rfl (fun _ => run_not)) ?_
                clear hF; intro a hF
                refine seq_yl hF (wn_none rfl) rfl rfl (yl_move hF rfl rfl) ?_
                clear hF; intro a hF
                refine seq_yl hF (wn_t hF rfl rfl rfl rfl) rfl rfl (yl_move hF rfl rfl) ?_
                clear hF; intro a hF
                refine seq_yl hF (wn_t hF rfl rfl rfl rfl) rfl rfl (yl_move hF rfl rfl) ?_
                clear hF; intro a hF
                refine seq_yl hF (wn_t hF rfl rfl rfl rfl) rfl rfl (yl_bin hF rfl rfl rfl rfl (fun _ => run_sub (by refine ⟨?_, ?_⟩ <;> omega))) ?_
                clear hF; intro a hF
                refine seq_yl hF (wn_t hF rfl rfl rfl rfl) rfl rfl (yl_move hF rfl rfl) ?_
                clear hF; intro a hF
                refine seq_yl hF (wn_t hF rfl rfl rfl rfl) rfl rfl (yl_bin hF rfl rfl rfl rfl (fun _ => run_lss)) ?_
                clear hF; intro a hF
                replace hF := fr_set (b' := false) hF (by rw [decide_eq_false_iff_not]; omega)
                refine seq_yl hF (wn_none rfl) rfl rfl (yl_pick (u := _) (v := undef) hF rfl rfl (fun h => by cases h) (fun _ => rfl)) ?_
                clear hF; intro a hF
                refine seq_yl hF (wn_none rfl) rfl rfl (yl_move hF rfl rfl) ?_
                clear hF; intro a hF
                refine seq_yl hF (wn_t hF rfl rfl rfl rfl) rfl rfl (yl_move hF rfl rfl) ?_
                clear hF; intro a hF
                refine seq_yl hF (wn_t hF rfl rfl rfl rfl) rfl rfl (yl_move hF rfl rfl) ?_
                clear hF; intro a hF
                refine seq_yl hF (wn_t hF rfl rfl rfl rfl) rfl rfl (yl_move hF rfl rfl) ?_
                clear hF; intro a hF
                refine seq_yl hF (wn_t hF rfl rfl rfl rfl) rfl rfl (yl_indexAddr hF rfl rfl rfl (fun _ => run_idx' sl22 sz3 (hS.rdRow 4 rfl) hlt_hx436)) ?_
                clear hF; intro a hF
                refine seq_yl hF (wn_t hF rfl rfl rfl rfl) rfl rfl (yl_loadAt hF rfl rfl ag3 (fun _ h => rd_cell0 (enc := encI) (by subst h; exact hS.rdRow 4 rfl) encI_len hx436 rfl rfl)) ?_
                clear hF; intro a hF
                refine seq_yl hF (wn_t hF rfl rfl rfl rfl) rfl rfl (yl_lookB (z := (x436)) (fun _ h => h ▸ hS) hF rfl rfl rfl 5 rfl Try.underlying42 Try.underlying3 Try.underlying4 zr4 hmB (by unfold i64; omega)) ?_
                clear hF; intro a hF
                replace hF := fr_set (b' := false) hF (seen_no hsn hxn)
                refine seq_yl hF (wn_none rfl) rfl rfl (yl_pick (u := _) (v := undef) hF rfl rfl (fun h => by cases h) (fun _ => rfl)) ?_
                clear hF; intro a hF
                refine seq_yl hF (wn_none rfl) rfl rfl (yl_move hF rfl rfl) ?_
                clear hF; intro a hF
                refine seq_yl hF (wn_t hF rfl rfl rfl rfl) rfl rfl (yl_move hF rfl rfl) ?_
                clear hF; intro a hF
                refine seq_yl hF (wn_t hF rfl rfl rfl rfl) rfl rfl (yl_bin hF rfl rfl rfl rfl (fun _ => run_gtr)) ?_
                clear hF; intro a hF
                refine seq_yl hF (wn_t hF rfl rfl rfl rfl) rfl rfl (yl_move hF rfl rfl) ?_
                clear hF; intro a hF
                refine fr_split hF (fun hc438 hF => ?_) (fun hc438 hF => ?_)
                · first | (replace hc438 := of_decide_eq_true hc438) | (replace hc438 := of_decide_eq_false (bnot_t hc438)) | (replace hc438 := bnot_t hc438) | skip
                  refine seq_yl hF (wn_t hF rfl rfl rfl rfl) rfl rfl (yl_move hF rfl rfl) ?_
                  clear hF; intro a hF
                  refine seq_yl hF (wn_t hF rfl rfl rfl rfl) rfl rfl (yl_move hF rfl rfl) ?_
                  clear hF; intro a hF
                  refine seq_yl hF (wn_t hF rfl rfl rfl rfl) rfl rfl (yl_move hF rfl rfl) ?_
                  clear hF; intro a hF
                  refine seq_yl hF (wn_t hF rfl rfl rfl rfl) rfl rfl (yl_move hF rfl rfl) ?_
                  clear hF; intro a hF
                  refine seq_yl hF (wn_t hF rfl rfl rfl rfl) rfl rfl (yl_bin hF rfl rfl rfl rfl (fun _ => run_dec (c := 1) (by omega) (by omega))) ?_
                  clear hF; intro a hF
                  have hlt_hx439 : (i - 1) < (M430).length := by first | omega | (simp; done) | (simp; omega)
                  obtain ⟨x439, hx439⟩ := get_some hlt_hx439
                  refine seq_yl hF (wn_t hF rfl rfl rfl rfl) rfl rfl (yl_indexAddr hF rfl rfl rfl (fun _ => run_idx' sl22 sz3 (hS.rdRow 4 rfl) hlt_hx439)) ?_
                  clear hF; intro a hF
                  refine seq_yl hF (wn_t hF rfl rfl rfl rfl) rfl rfl (yl_loadAt hF rfl rfl ag3 (fun _ h => rd_cell0 (enc := encI) (by subst h; exact hS.rdRow 4 rfl) encI_len hx439 rfl rfl)) ?_
                  clear hF; intro a hF
                  obtain ⟨d9, hd9, hdc, hy7⟩ := hprev _ _ (by omega) hx439
                  refine seq_yl hF (wn_t hF rfl rfl rfl rfl) rfl rfl (yl_look (z := (x439)) (fun _ h => h ▸ hS) hF rfl rfl rfl 2 rfl Try.underlying41 Try.underlying3 Try.underlying3 zr3 hmI (by unfold i64; omega)) ?_
                  clear hF; intro a hF
                  replace hF := fr_seti (b' := (d9)) hF (by rw [hd9]; rfl)
                  refine seq_yl hF (wn_t hF rfl rfl rfl rfl) rfl rfl (yl_bin hF rfl rfl rfl rfl (fun _ => run_lss)) ?_
                  clear hF; intro a hF
                  replace hF := fr_set (b' := false) hF (by rw [decide_eq_false_iff_not]; omega)
                  refine seq_yl hF (wn_t hF rfl rfl rfl rfl) rfl rfl (yl_pick (u := _) (v := undef) hF rfl rfl (fun _ => rfl) (fun h => by cases h)) ?_
                  clear hF; intro a hF
                  refine seq_yl hF (wn_none rfl) rfl rfl (yl_pick (u := _) (v := undef) hF rfl rfl (fun h => by cases h) (fun _ => rfl)) ?_
                  clear hF; intro a hF
                  refine wpList_nil ?_
                  refine then_n ?_
                  refine c_cond_f hF rfl ?_
                  refine wp_skip ?_
                  refine then_n ?_
                  refine c_region ?_
                  refine seq_yl hF (wn_none rfl) rfl rfl (yl_move hF rfl rfl) ?_
                  clear hF; intro a hF
                  refine seq_yl hF (wn_none rfl) rfl rfl (yl_move hF rfl rfl) ?_
                  clear hF; intro a hF
                  refine seq_yl hF (wn_none rfl) rfl rfl (yl_move hF rfl rfl) ?_
                  clear hF; intro a hF
                  refine seq_yl hF (wn_none rfl) rfl rfl (yl_indexAddr hF rfl rfl rfl (fun _ => run_idx' sl22 sz3 (hS.rdRow 4 rfl) hlt_hx436)) ?_
                  clear hF; intro a hF
                  refine seq_yl hF (wn_none rfl) rfl rfl (yl_loadAt hF rfl rfl ag3 (fun _ h => rd_cell0 (enc := encI) (by subst h; exact hS.rdRow 4 rfl) encI_len hx436 rfl rfl)) ?_
                  clear hF; intro a hF
                  refine seq_wp (wn_none rfl) (wp_mapPutB (z := (x436)) (v := true) hF hS rfl rfl rfl rfl rfl 5 rfl Try.underlying42 Try.underlying3 Try.underlying4 hmB (by unfold i64; omega) (by unfold maxLen; omega) ?_)
                  clear hF hS; intro a w ob440 hF hm441 hS
                  refine wpList_nil ?_
                  refine inb_n ?_
                  refine then_n ?_
                  refine c_region ?_
                  refine seq_yl hF (wn_none rfl) rfl rfl (yl_move hF rfl rfl) ?_
                  clear hF; intro a hF
                  refine seq_yl hF (wn_none rfl) rfl rfl (yl_bin hF rfl rfl rfl rfl (fun _ => run_inc (by omega))) ?_
                  clear hF; intro a hF
                  refine seq_yl hF (wn_none rfl) rfl rfl (yl_assign hF rfl rfl) ?_
                  clear hF; intro a hF
                  refine wpList_nil ?_
                  refine then_n ?_
                  exact ⟨_, (by omega), i + 1, ob440, (ns + 1), (fput fs (x436) true), rfl, ⟨by omega, hm441, by omega, seen_step hsn hx436⟩, hF.to [3, 4, 5, 6, 7, 17, 18, 19, 20] rfl, (hS.sub [0, 1, 2, 3, 4, 5] (by decide) (by first | rfl | simp) (by simp))⟩
                · first | (replace hc438 := of_decide_eq_false hc438) | (replace hc438 := of_decide_eq_true (bnot_f hc438)) | (replace hc438 := bnot_f hc438) | skip
                  refine seq_skip hF (wn_f hF rfl rfl rfl rfl) rfl rfl ?_
                  clear hF; intro a hF
                  refine seq_skip hF (wn_f hF rfl rfl rfl rfl) rfl rfl ?_
                  clear hF; intro a hF
                  refine seq_skip hF (wn_f hF rfl rfl rfl rfl) rfl rfl ?_
                  clear hF; intro a hF
                  refine seq_skip hF (wn_f hF rfl rfl rfl rfl) rfl rfl ?_
                  clear hF; intro a hF
                  refine seq_skip hF (wn_f hF rfl rfl rfl rfl) rfl rfl ?_
                  clear hF; intro a hF
                  refine seq_skip hF (wn_f hF rfl rfl rfl rfl) rfl rfl ?_
                  clear hF; intro a hF
                  refine seq_skip hF (wn_f hF rfl rfl rfl rfl) rfl rfl ?_
                  clear hF; intro a hF
                  refine seq_skip hF (wn_f hF rfl rfl rfl rfl) rfl rfl ?_
                  clear hF; intro a hF
                  refine seq_skip hF (wn_f hF rfl rfl rfl rfl) rfl rfl ?_
                  clear hF; intro a hF
                  refine seq_yl hF (wn_t hF rfl rfl rfl rfl) rfl rfl (yl_pick (u := _) (v := undef) hF rfl rfl (fun h => by cases h) (fun _ => rfl)) ?_
                  clear hF; intro a hF
                  refine seq_yl hF (wn_none rfl) rfl rfl (yl_pick (u := _) (v := undef) hF rfl rfl (fun h => by cases h) (fun _ => rfl)) ?_
                  clear hF; intro a hF
                  refine wpList_nil ?_
                  refine then_n ?_
                  refine c_cond_f hF rfl ?_
                  refine wp_skip ?_
                  refine then_n ?_
                  refine c_region ?_
                  refine seq_yl hF (wn_none rfl) rfl rfl (yl_move hF rfl rfl) ?_
                  clear hF; intro a hF
                  refine seq_yl hF (wn_none rfl) rfl rfl (yl_move hF rfl rfl) ?_
                  clear hF; intro a hF
                  refine seq_yl hF (wn_none rfl) rfl rfl (yl_move hF rfl rfl) ?_
                  clear hF; intro a hF
                  refine seq_yl hF (wn_none rfl) rfl rfl (yl_indexAddr hF rfl rfl rfl (fun _ => run_idx' sl22 sz3 (hS.rdRow 4 rfl) hlt_hx436)) ?_
                  clear hF; intro a hF
                  refine seq_yl hF (wn_none rfl) rfl rfl (yl_loadAt hF rfl rfl ag3 (fun _ h => rd_cell0 (enc := encI) (by subst h; exact hS.rdRow 4 rfl) encI_len hx436 rfl rfl)) ?_
                  clear hF; intro a hF
                  refine seq_wp (wn_none rfl) (wp_mapPutB (z := (x436)) (v := true) hF hS rfl rfl rfl rfl rfl 5 rfl Try.underlying42 Try.underlying3 Try.underlying4 hmB (by unfold i64; omega) (by unfold maxLen; omega) ?_)
                  clear hF hS; intro a w ob442 hF hm443 hS
                  refine wpList_nil ?_
                  refine inb_n ?_
                  refine then_n ?_
                  refine c_region ?_
                  refine seq_yl hF (wn_none rfl) rfl rfl (yl_move hF rfl rfl) ?_
                  clear hF; intro a hF
                  refine seq_yl hF (wn_none rfl) rfl rfl (yl_bin hF rfl rfl rfl rfl (fun _ => run_inc (by omega))) ?_
                  clear hF; intro a hF
                  refine seq_yl hF (wn_none rfl) rfl rfl (yl_assign hF rfl rfl) ?_
                  clear hF; intro a hF
                  refine wpList_nil ?_
                  refine then_n ?_
                  exact ⟨_, (by omega), i + 1, ob442, (ns + 1), (fput fs (x436) true), rfl, ⟨by omega, hm443, by omega, seen_step hsn hx436⟩, hF.to [3, 4, 5, 6, 7, 17, 18, 19, 20] rfl, (hS.sub [0, 1, 2, 3, 4, 5] (by decide) (by first | rfl | simp) (by simp))⟩
              · first | (replace hc435 := of_decide_eq_false hc435) | (replace hc435 := of_decide_eq_true (bnot_f hc435)) | (replace hc435 := bnot_f hc435) | skip
                refine wp_exit ?_
                refine then_x ?_
                refine then_x ?_
                refine inb_x ?_
                refine then_n ?_
                refine c_seq ?_
                refine c_region ?_
                refine seq_yl hF (wn_none rfl) rfl rfl (yl_move hF rfl rfl) ?_
                clear hF; intro a hF
                refine seq_wp (wn_none rfl) (wp_range hF hS rfl rfl rfl rfl 2 rfl Try.underlying41 Try.underlying3 hmI ?_)
                clear hF hS; intro a w g444 it445 cnt446 hF hR447 hS
                refine wpList_nil ?_
                refine then_n ?_
                refine wp_block ?_
                refine c_loop (fun m a w => ∃ (jt : Obj) (cnt : Nat), m = cnt ∧ (Rg Try.prog 3 3 w g365 g444 mn mf cnt) ∧ Fr 165 a [(3, .pointer (some ⟨g364, 0, none⟩)), (4, .slice Av386 (L387).length cv386), (5, .map (some g365)), (6, .int .i64 (((nw) + (r370)))), (7, .int .i64 ((n : Nat) : Int)), (17, .int .i64 (r426)), (19, .map (some g433)), (147, .pointer (some ⟨g444, 0, none⟩))] ∧ Sat w0 w (.box g364 25 #[.slice Av (L).length cv, .int .i64 ((it427 : Nat) : Int)] :: .ro 1 (.slice Av (L).length cv) (L).length (cells encI (L)) :: .obj g365 om :: .row 44 2 (.slice Av386 (L387).length cv386) (L387).length (cells enc44 (L387)) :: .obj g433 os :: .obj g444 jt :: [])) (cnt446) ?_ ?_
                · exact ⟨it445, cnt446, rfl, hR447, hF.to [3, 4, 5, 6, 7, 17, 19, 147] rfl, (hS.sub [1, 2, 3, 4, 6, 0] (by decide) (by first | rfl | simp) (by simp))⟩
                · clear hF hS; try clear hSS
                  clear hR447; clear a w; rintro m a w ⟨jt, cnt, rfl, hinv, hF, hS⟩
                  have hR := hinv
                  refine c_seq ?_
                  refine c_region ?_
                  refine seq_wp (wn_none rfl) (wp_next hF hS rfl rfl rfl rfl 5 rfl Try.underlying3 Try.underlying3 hR ?_ ?_)
                  · clear hF; intro a hF
                    refine seq_yl hF (wn_none rfl) rfl rfl (yl_extract hF rfl rfl rfl) ?_
                    clear hF; intro a hF
                    refine wpList_nil ?_
                    refine then_n ?_
                    refine c_seq ?_
                    refine c_cond_f hF rfl ?_
                    refine wp_exit ?_
                    refine then_x ?_
                    refine then_x ?_
                    refine inb_x ?_
                    refine inb_n ?_
                    refine then_n ?_
                    refine c_region ?_
                    refine seq_yl hF (wn_none rfl) rfl rfl (yl_move hF rfl rfl) ?_
                    clear hF; intro a hF
                    refine seq_yl hF (wn_none rfl) rfl rfl (yl_bin hF rfl rfl rfl rfl (fun _ => run_inc (by omega))) ?_
                    clear hF; intro a hF
                    refine seq_yl hF (wn_none rfl) rfl rfl (yl_assign hF rfl rfl) ?_
                    clear hF; intro a hF
                    refine wpList_nil ?_
                    refine then_n ?_
                    exact ⟨_, (by omega), n + 1, it427, (((nw) + (r370))), L387, om, mn, mf, Av386, cv386, rfl, ⟨by omega, by omega, by omega, hb1, hb2, by omega, hsf2, hmI, by omega⟩, hF.to [3, 4, 5, 6, 7] rfl, (hS.sub [0, 1, 2, 3] (by decide) (by first | rfl | simp) (by simp))⟩
                  · clear hF hS; intro a w it448 cnt449 ky450 kc451 hF hky452 hkc453 hkf454 hkl455 hR456 hen457 hS
                    refine seq_yl hF (wn_none rfl) rfl rfl (yl_extract hF rfl rfl rfl) ?_
                    clear hF; intro a hF
                    refine wpList_nil ?_
                    refine then_n ?_
                    refine c_seq ?_
                    refine c_cond_t hF rfl ?_
                    refine wp_skip ?_
                    refine then_n ?_
                    refine wp_block ?_
                    refine c_seq ?_
                    refine c_region ?_
                    refine seq_yl hF (wn_none rfl) rfl rfl (yl_entry hF rfl rfl hen457) ?_
                    clear hF; intro a hF
                    refine seq_yl hF (wn_none rfl) rfl rfl (yl_extract hF rfl rfl rfl) ?_
                    clear hF; intro a hF
                    refine seq_yl hF (wn_none rfl) rfl rfl (yl_extract hF rfl rfl rfl) ?_
                    clear hF; intro a hF
                    refine seq_yl hF (wn_none rfl) rfl rfl (yl_assign hF rfl rfl) ?_
                    clear hF; intro a hF
                    refine seq_yl hF (wn_none rfl) rfl rfl (yl_assign hF rfl rfl) ?_
                    clear hF; intro a hF
                    refine wpList_nil ?_
                    refine then_n ?_
                    refine c_seq ?_
                    refine c_region ?_
                    have hcb := sf_bd hb1 hsf2 hkf454
                    refine seq_yl hF (wn_none rfl) rfl rfl (yl_move hF rfl rfl) ?_
                    clear hF; intro a hF
                    refine seq_yl hF (wn_none rfl) rfl rfl (yl_move hF rfl rfl) ?_
                    clear hF; intro a hF
                    refine seq_yl hF (wn_none rfl) rfl rfl (yl_bin hF rfl rfl rfl rfl (fun _ => run_sub (by refine ⟨?_, ?_⟩ <;> omega))) ?_
                    clear hF; intro a hF
                    refine seq_yl hF (wn_none rfl) rfl rfl (yl_move hF rfl rfl) ?_
                    clear hF; intro a hF
                    refine seq_yl hF (wn_none rfl) rfl rfl (yl_bin hF rfl rfl rfl rfl (fun _ => run_geq)) ?_
                    clear hF; intro a hF
                    refine seq_yl hF (wn_none rfl) rfl rfl (yl_move hF rfl rfl) ?_
                    clear hF; intro a hF
                    refine fr_split hF (fun hc458 hF => ?_) (fun hc458 hF => ?_)
                    · first | (replace hc458 := of_decide_eq_true hc458) | (replace hc458 := of_decide_eq_false (bnot_t hc458)) | (replace hc458 := bnot_t hc458) | skip
                      refine seq_yl hF (wn_t hF rfl rfl rfl rfl) rfl rfl (yl_move hF rfl rfl) ?_
                      clear hF; intro a hF
                      refine seq_yl hF (wn_t hF rfl rfl rfl rfl) rfl rfl (yl_move hF rfl rfl) ?_
                      clear hF; intro a hF
                      refine seq_yl hF (wn_t hF rfl rfl rfl rfl) rfl rfl (yl_lookB (z := (ky450)) (fun _ h => h ▸ hS) hF rfl rfl rfl 4 rfl Try.underlying42 Try.underlying3 Try.underlying4 zr4 hmB (by unfold i64; omega)) ?_
                      clear hF; intro a hF
                      replace hF := fr_set (b' := true) hF (seen_all hsn (by omega) (due_mem hb1 hsf2 (by omega) (by omega) hp431 hkf454 (by omega)))
                      refine seq_yl hF (wn_t hF rfl rfl rfl rfl) rfl rfl (yl_un hF rfl rfl (fun _ => run_not)) ?_
                      clear hF; intro a hF
                      refine seq_yl hF (wn_none rfl) rfl rfl (yl_pick (u := _) (v := undef) hF rfl rfl (fun _ => rfl) (fun h => by cases h)) ?_
                      clear hF; intro a hF
                      refine wpList_nil ?_
                      refine then_n ?_
                      refine c_cond_f hF rfl ?_
                      refine wp_skip ?_
                      refine inb_n ?_
                      refine then_n ?_
                      exact ⟨_, (by omega), it448, cnt449, rfl, hR456, hF.to [3, 4, 5, 6, 7, 17, 19, 147] rfl, (hS.sub [0, 1, 2, 3, 4, 5] (by decide) (by first | rfl | simp) (by simp))⟩
                    · first | (replace hc458 := of_decide_eq_false hc458) | (replace hc458 := of_decide_eq_true (bnot_f hc458)) | (replace hc458 := bnot_f hc458) | skip
                      refine seq_skip hF (wn_f hF rfl rfl rfl rfl) rfl rfl ?_
                      clear hF; intro a hF
                      refine seq_skip hF (wn_f hF rfl rfl rfl rfl) rfl rfl ?_
                      clear hF; intro a hF
                      refine seq_skip hF (wn_f hF rfl rfl rfl rfl) rfl rfl ?_
                      clear hF; intro a hF
                      refine seq_skip hF (wn_f hF rfl rfl rfl rfl) rfl rfl ?_
                      clear hF; intro a hF
                      refine seq_yl hF (wn_none rfl) rfl rfl (yl_pick (u := _) (v := undef) hF rfl rfl (fun h => by cases h) (fun _ => rfl)) ?_
                      clear hF; intro a hF
                      refine wpList_nil ?_
                      refine then_n ?_
                      refine c_cond_f hF rfl ?_
                      refine wp_skip ?_
                      refine inb_n ?_
                      refine then_n ?_
                      exact ⟨_, (by omega), it448, cnt449, rfl, hR456, hF.to [3, 4, 5, 6, 7, 17, 19, 147] rfl, (hS.sub [0, 1, 2, 3, 4, 5] (by decide) (by first | rfl | simp) (by simp))⟩
      · first | (replace hc369 := of_decide_eq_false hc369) | (replace hc369 := of_decide_eq_true (bnot_f hc369)) | (replace hc369 := bnot_f hc369) | skip
        refine wp_exit ?_
        refine then_x ?_
        refine then_x ?_
        refine inb_x ?_
        refine then_n ?_
        refine c_seq ?_
        refine c_region ?_
        refine seq_wp (wn_none rfl) (wp_call (vs := []) hF rfl rfl rfl rfl cf22 (awake_any _) ?_)
        clear hF; rintro _ w ⟨rfl, hS1⟩ a hF
        replace hS := hS.callB hS1 rfl; clear hS1
        refine seq_yl hF (wn_none rfl) rfl rfl (yl_assign hF rfl rfl) ?_
        clear hF; intro a hF
        refine wpList_nil ?_
        refine then_n ?_
        refine wp_ret ?_
        refine ret_t hF rfl rfl ?_
        exact ⟨_, rfl, rfl, (hS.sub [] (by decide) (by first | rfl | simp) (by simp))⟩
    · first | (replace hc367 := of_decide_eq_false hc367) | (replace hc367 := of_decide_eq_true (bnot_f hc367)) | (replace hc367 := bnot_f hc367) | skip
      refine seq_skip hF (wn_f hF rfl rfl rfl rfl) rfl rfl ?_
      clear hF; intro a hF
      refine seq_skip hF (wn_f hF rfl rfl rfl rfl) rfl rfl ?_
      clear hF; intro a hF
      refine seq_skip hF (wn_f hF rfl rfl rfl rfl) rfl rfl ?_
      clear hF; intro a hF
      refine seq_yl hF (wn_none rfl) rfl rfl (yl_pick (u := _) (v := undef) hF rfl rfl (fun h => by cases h) (fun _ => rfl)) ?_
      clear hF; intro a hF
      refine wpList_nil ?_
      refine then_n ?_
      refine c_cond_f hF rfl ?_
      refine wp_exit ?_
      refine then_x ?_
      refine then_x ?_
      refine inb_x ?_
      refine then_n ?_
      refine c_seq ?_
      refine c_region ?_
      refine seq_wp (wn_none rfl) (wp_call (vs := []) hF rfl rfl rfl rfl cf22 (awake_any _) ?_)
      clear hF; rintro _ w ⟨rfl, hS1⟩ a hF
      replace hS := hS.callB hS1 rfl; clear hS1
      refine seq_yl hF (wn_none rfl) rfl rfl (yl_assign hF rfl rfl) ?_
      clear hF; intro a hF
      refine wpList_nil ?_
      refine then_n ?_
      refine wp_ret ?_
      refine ret_t hF rfl rfl ?_
      exact ⟨_, rfl, rfl, (hS.sub [] (by decide) (by first | rfl | simp) (by simp))⟩

end Go.Proofs.Ytffaminjbcfojaa

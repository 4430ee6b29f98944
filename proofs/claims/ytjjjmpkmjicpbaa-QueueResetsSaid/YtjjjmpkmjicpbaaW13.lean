/- walks, printed by wip/gen -/
import Derived.Test.YtjjjmpkmjicpbaaW8
import Derived.Test.YtjjjmpkmjicpbaaW9
import Derived.Test.YtjjjmpkmjicpbaaW5
import Derived.Test.YtjjjmpkmjicpbaaW6
import Derived.Test.YtjjjmpkmjicpbaaW7
namespace Go.Proofs.Ytjjjmpkmjicpbaa
open Go.RowKit
set_option linter.unusedVariables false
set_option linter.unusedSimpArgs false

set_option maxHeartbeats 4000000 in
theorem resets_any (v : Value) (L : List Int) (n n2 : Int) (w0 : World) (hv : Rd w0 1 v (L).length (cells encI (L))) (hL : L.length ≤ 9223372036854775807) :
    Fn Try.prog 7 #[v, .int .i64 n, .int .i64 n2] w0 (fun v w' => v = .bool true ∧ Sat w0 w' []) := by
  obtain ⟨Av, cv, rfl⟩ := Rd.form hv
  refine c_enter (N := 129) (l := [_, _, _]) Try.func7 rfl rfl (fun a w hF hS => ?_)
  replace hS := hS.addRo hv
  refine c_seq ?_
  refine c_region ?_
  refine seq_yl hF (wn_none rfl) rfl rfl (yl_assign hF rfl rfl) ?_
  clear hF; intro a hF
  refine wpList_nil ?_
  refine then_n ?_
  refine c_seq ?_
  refine c_region ?_
  refine seq_yl hF (wn_none rfl) rfl rfl (yl_move hF rfl rfl) ?_
  clear hF; intro a hF
  refine seq_yl hF (wn_none rfl) rfl rfl (yl_move hF rfl rfl) ?_
  clear hF; intro a hF
  refine seq_wp (wn_none rfl) (wp_call (vs := [_, _]) hF rfl rfl rfl rfl cf10 (pushed_any _ L (n) _ (hS.rdRo 0 rfl) (by first | omega | (simp; done) | (simp; omega))) ?_)
  clear hF; rintro _ w ⟨q686, b687, e688, m689, now690, v691, rfl, hq692, hb693, he694, hm695, hn696, hS1⟩ a hF
  replace hS := hS.callB hS1 rfl; clear hS1
  obtain ⟨Av691, cv691, rfl⟩ := hS.form 0 rfl
  have hdq686 := hq692.d; have hhq686 := hq692.h; have hfq686 := hq692.f; have hlq686 := hq692.len
  refine seq_yl hF (wn_none rfl) rfl rfl (yl_move hF rfl rfl) ?_
  clear hF; intro a hF
  refine seq_yl hF (wn_none rfl) rfl rfl (yl_extract hF rfl rfl rfl) ?_
  clear hF; intro a hF
  refine seq_yl hF (wn_none rfl) rfl rfl (yl_extract hF rfl rfl rfl) ?_
  clear hF; intro a hF
  refine seq_yl hF (wn_none rfl) rfl rfl (yl_extract hF rfl rfl rfl) ?_
  clear hF; intro a hF
  refine seq_wp (wn_none rfl) (wp_alloc (cs := #[_, _, _, _]) hF hS rfl rfl rfl zr25 rfl ?_)
  clear hF hS; intro a w g697 hF hS
  refine seq_wp (wn_none rfl) (wp_alloc (cs := #[_, _, _]) hF hS rfl rfl rfl zr27 rfl ?_)
  clear hF hS; intro a w g698 hF hS
  refine seq_wp (wn_none rfl) (wp_store (cs' := #[_, _, _, _]) hF hS rfl rfl rfl rfl 1 rfl sz25 (by simp [Value.cells, Value.oneCell']) (by simp [Value.cells]) rfl ?_)
  clear hF hS; intro a w hF hS
  refine seq_wp (wn_none rfl) (wp_store (cs' := #[_, _, _]) hF hS rfl rfl rfl rfl 0 rfl sz27 (by simp [Value.cells, Value.oneCell']) (by simp [Value.cells]) rfl ?_)
  clear hF hS; intro a w hF hS
  refine seq_yl hF (wn_none rfl) rfl rfl (yl_assign hF rfl rfl) ?_
  clear hF; intro a hF
  refine wpList_nil ?_
  refine then_n ?_
  refine c_seq ?_
  refine c_region ?_
  refine seq_yl hF (wn_none rfl) rfl rfl (yl_loadK (rs := [_, _, _, _]) (fun _ h => h ▸ hS) hF rfl rfl 1 rfl ag25 sz25 rfl rfl) ?_
  clear hF; intro a hF
  refine seq_yl hF (wn_none rfl) rfl rfl (yl_move hF rfl rfl) ?_
  clear hF; intro a hF
  refine seq_wp (wn_none rfl) (wp_call (vs := [_, _]) hF rfl rfl rfl rfl cf19 (reset_any (q686.d) (q686.h) (q686.f) q686.L (now690) _ _ (hS.rdRow 2 rfl) (by first | omega | (simp; done) | (simp; omega))) ?_)
  clear hF; rintro _ w ⟨v699, v700, rfl, hS1⟩ a hF
  replace hS := hS.callB hS1 rfl; clear hS1
  obtain ⟨Av699, cv699, rfl⟩ := hS.form 0 rfl
  obtain ⟨Av700, cv700, rfl⟩ := hS.form 1 rfl
  refine seq_yl hF (wn_none rfl) rfl rfl (yl_move hF rfl rfl) ?_
  clear hF; intro a hF
  refine seq_yl hF (wn_none rfl) rfl rfl (yl_extract hF rfl rfl rfl) ?_
  clear hF; intro a hF
  refine seq_yl hF (wn_none rfl) rfl rfl (yl_extract hF rfl rfl rfl) ?_
  clear hF; intro a hF
  refine seq_wp (wn_none rfl) (wp_alloc (cs := #[_, _, _, _]) hF hS rfl rfl rfl zr25 rfl ?_)
  clear hF hS; intro a w g701 hF hS
  refine seq_wp (wn_none rfl) (wp_store (cs' := #[_, _, _, _]) hF hS rfl rfl rfl rfl 0 rfl sz25 (by simp [Value.cells, Value.oneCell']) (by simp [Value.cells]) rfl ?_)
  clear hF hS; intro a w hF hS
  refine seq_yl hF (wn_none rfl) rfl rfl (yl_assign hF rfl rfl) ?_
  clear hF; intro a hF
  refine wpList_nil ?_
  refine then_n ?_
  refine c_seq ?_
  refine c_seq ?_
  refine c_region ?_
  refine seq_yl hF (wn_none rfl) rfl rfl (yl_move hF rfl rfl) ?_
  clear hF; intro a hF
  refine seq_yl hF (wn_none rfl) rfl rfl (yl_fieldAddr hF rfl rfl (fun w => by kernel_rfl : ∀ w, (Instr.fieldAt 25 (.pointer (some ⟨g697, 0, none⟩)) 3).run Try.prog w = .ok (.pointer (some ⟨g697, 3, none⟩)) w)) ?_
  clear hF; intro a hF
  refine seq_yl hF (wn_none rfl) rfl rfl (yl_load (fun _ h => h ▸ hS) hF rfl rfl 4 rfl ag23 rfl) ?_
  clear hF; intro a hF
  refine seq_wp (wn_none rfl) (wp_call (vs := [_, _]) hF rfl rfl rfl rfl cf20 (sameC_any _ _ q686.L q686.L _ (hS.rdRow 2 rfl) (hS.rdRow 5 rfl) (by first | omega | (simp; done) | (simp; omega))) ?_)
  clear hF; rintro _ w ⟨rfl, hS1⟩ a hF
  replace hS := hS.callB hS1 rfl; clear hS1
  replace hF := fr_set (b' := true) hF (by simp)
  refine seq_yl hF (wn_none rfl) rfl rfl (yl_un hF rfl rfl (fun _ => run_not)) ?_
  clear hF; intro a hF
  refine seq_yl hF (wn_none rfl) rfl rfl (yl_move hF rfl rfl) ?_
  clear hF; intro a hF
  refine seq_yl hF (wn_t hF rfl rfl rfl rfl) rfl rfl (yl_fieldAddr hF rfl rfl (fun w => by kernel_rfl : ∀ w, (Instr.fieldAt 25 (.pointer (some ⟨g701, 0, none⟩)) 3).run Try.prog w = .ok (.pointer (some ⟨g701, 3, none⟩)) w)) ?_
  clear hF; intro a hF
  refine seq_yl hF (wn_t hF rfl rfl rfl rfl) rfl rfl (yl_load (fun _ h => h ▸ hS) hF rfl rfl 0 rfl ag23 rfl) ?_
  clear hF; intro a hF
  refine seq_yl hF (wn_t hF rfl rfl rfl rfl) rfl rfl (yl_len hF rfl rfl (fun _ => run_lenRd sl23 (hS.rdRow 1 rfl))) ?_
  clear hF; intro a hF
  refine seq_yl hF (wn_t hF rfl rfl rfl rfl) rfl rfl (yl_bin hF rfl rfl rfl rfl (fun _ => run_neq)) ?_
  clear hF; intro a hF
  replace hF := fr_set (b' := false) hF (by simp)
  refine seq_yl hF (wn_none rfl) rfl rfl (yl_pick (u := _) (v := undef) hF rfl rfl (fun h => by cases h) (fun _ => rfl)) ?_
  clear hF; intro a hF
  refine seq_yl hF (wn_none rfl) rfl rfl (yl_move hF rfl rfl) ?_
  clear hF; intro a hF
  refine seq_yl hF (wn_t hF rfl rfl rfl rfl) rfl rfl (yl_fieldAddr hF rfl rfl (fun w => by kernel_rfl : ∀ w, (Instr.fieldAt 25 (.pointer (some ⟨g701, 0, none⟩)) 2).run Try.prog w = .ok (.pointer (some ⟨g701, 2, none⟩)) w)) ?_
  clear hF; intro a hF
  refine seq_yl hF (wn_t hF rfl rfl rfl rfl) rfl rfl (yl_load (fun _ h => h ▸ hS) hF rfl rfl 0 rfl ag3 rfl) ?_
  clear hF; intro a hF
  refine seq_yl hF (wn_t hF rfl rfl rfl rfl) rfl rfl (yl_move hF rfl rfl) ?_
  clear hF; intro a hF
  refine seq_yl hF (wn_t hF rfl rfl rfl rfl) rfl rfl (yl_bin hF rfl rfl rfl rfl (fun _ => run_neq)) ?_
  clear hF; intro a hF
  replace hF := fr_set (b' := false) hF (by simp)
  refine seq_yl hF (wn_none rfl) rfl rfl (yl_pick (u := _) (v := undef) hF rfl rfl (fun h => by cases h) (fun _ => rfl)) ?_
  clear hF; intro a hF
  refine seq_yl hF (wn_none rfl) rfl rfl (yl_move hF rfl rfl) ?_
  clear hF; intro a hF
  refine seq_yl hF (wn_t hF rfl rfl rfl rfl) rfl rfl (yl_fieldAddr hF rfl rfl (fun w => by kernel_rfl : ∀ w, (Instr.fieldAt 25 (.pointer (some ⟨g701, 0, none⟩)) 1).run Try.prog w = .ok (.pointer (some ⟨g701, 1, none⟩)) w)) ?_
  clear hF; intro a hF
  refine seq_yl hF (wn_t hF rfl rfl rfl rfl) rfl rfl (yl_load (fun _ h => h ▸ hS) hF rfl rfl 0 rfl ag3 rfl) ?_
  clear hF; intro a hF
  refine seq_yl hF (wn_t hF rfl rfl rfl rfl) rfl rfl (yl_bin hF rfl rfl rfl rfl (fun _ => run_neq)) ?_
  clear hF; intro a hF
  replace hF := fr_set (b' := false) hF (by decide)
  refine seq_yl hF (wn_none rfl) rfl rfl (yl_pick (u := _) (v := undef) hF rfl rfl (fun h => by cases h) (fun _ => rfl)) ?_
  clear hF; intro a hF
  refine seq_yl hF (wn_none rfl) rfl rfl (yl_move hF rfl rfl) ?_
  clear hF; intro a hF
  refine seq_yl hF (wn_t hF rfl rfl rfl rfl) rfl rfl (yl_fieldAddr hF rfl rfl (fun w => by kernel_rfl : ∀ w, (Instr.fieldAt 25 (.pointer (some ⟨g701, 0, none⟩)) 0).run Try.prog w = .ok (.pointer (some ⟨g701, 0, none⟩)) w)) ?_
  clear hF; intro a hF
  refine seq_yl hF (wn_t hF rfl rfl rfl rfl) rfl rfl (yl_load (fun _ h => h ▸ hS) hF rfl rfl 0 rfl ag3 rfl) ?_
  clear hF; intro a hF
  refine seq_yl hF (wn_t hF rfl rfl rfl rfl) rfl rfl (yl_fieldAddr hF rfl rfl (fun w => by kernel_rfl : ∀ w, (Instr.fieldAt 25 (.pointer (some ⟨g697, 0, none⟩)) 0).run Try.prog w = .ok (.pointer (some ⟨g697, 0, none⟩)) w)) ?_
  clear hF; intro a hF
  refine seq_yl hF (wn_t hF rfl rfl rfl rfl) rfl rfl (yl_load (fun _ h => h ▸ hS) hF rfl rfl 4 rfl ag3 rfl) ?_
  clear hF; intro a hF
  refine seq_yl hF (wn_t hF rfl rfl rfl rfl) rfl rfl (yl_bin hF rfl rfl rfl rfl (fun _ => run_neq)) ?_
  clear hF; intro a hF
  replace hF := fr_set (b' := false) hF (by simp)
  refine seq_yl hF (wn_none rfl) rfl rfl (yl_pick (u := _) (v := undef) hF rfl rfl (fun h => by cases h) (fun _ => rfl)) ?_
  clear hF; intro a hF
  refine wpList_nil ?_
  refine then_n ?_
  refine c_cond_f hF rfl ?_
  refine wp_skip ?_
  refine then_n ?_
  refine c_seq ?_
  refine c_seq ?_
  refine c_region ?_
  refine seq_yl hF (wn_none rfl) rfl rfl (yl_fieldAddr hF rfl rfl (fun w => by kernel_rfl : ∀ w, (Instr.fieldAt 25 (.pointer (some ⟨g697, 0, none⟩)) 3).run Try.prog w = .ok (.pointer (some ⟨g697, 3, none⟩)) w)) ?_
  clear hF; intro a hF
  refine seq_yl hF (wn_none rfl) rfl rfl (yl_load (fun _ h => h ▸ hS) hF rfl rfl 4 rfl ag23 rfl) ?_
  clear hF; intro a hF
  refine seq_yl hF (wn_none rfl) rfl rfl (yl_len hF rfl rfl (fun _ => run_lenRd sl23 (hS.rdRow 5 rfl))) ?_
  clear hF; intro a hF
  refine seq_yl hF (wn_none rfl) rfl rfl (yl_bin hF rfl rfl rfl rfl (fun _ => run_eql)) ?_
  clear hF; intro a hF
  refine wpList_nil ?_
  refine then_n ?_
  refine c_cond hF rfl (fun hc702 => ?_) (fun hc702 => ?_)
  · first | (replace hc702 := of_decide_eq_true hc702) | (replace hc702 := of_decide_eq_false (bnot_t hc702)) | (subst hc702) | (replace hc702 := bnot_t hc702; subst hc702) | (replace hc702 := bnot_t hc702) | skip
    refine c_seq ?_
    refine c_region ?_
    refine seq_wp (wn_none rfl) (wp_call (vs := []) hF rfl rfl rfl rfl cf14 (awake_any _) ?_)
    clear hF; rintro _ w ⟨rfl, hS1⟩ a hF
    replace hS := hS.callB hS1 rfl; clear hS1
    refine seq_yl hF (wn_none rfl) rfl rfl (yl_assign hF rfl rfl) ?_
    clear hF; intro a hF
    refine wpList_nil ?_
    refine then_n ?_
    refine wp_ret ?_
    refine then_r ?_
    refine ret_t hF rfl rfl ?_
    exact ⟨_, rfl, rfl, (hS.sub [] (by decide) (by first | rfl | simp) (by simp))⟩
  · first | (replace hc702 := of_decide_eq_false hc702) | (replace hc702 := of_decide_eq_true (bnot_f hc702)) | (subst hc702) | (replace hc702 := bnot_f hc702; subst hc702) | (replace hc702 := bnot_f hc702) | skip
    refine wp_skip ?_
    refine then_n ?_
    refine c_seq ?_
    refine c_region ?_
    refine seq_yl hF (wn_none rfl) rfl rfl (yl_move hF rfl rfl) ?_
    clear hF; intro a hF
    refine seq_yl hF (wn_none rfl) rfl rfl (yl_fieldAddr hF rfl rfl (fun w => by kernel_rfl : ∀ w, (Instr.fieldAt 25 (.pointer (some ⟨g697, 0, none⟩)) 3).run Try.prog w = .ok (.pointer (some ⟨g697, 3, none⟩)) w)) ?_
    clear hF; intro a hF
    refine seq_yl hF (wn_none rfl) rfl rfl (yl_load (fun _ h => h ▸ hS) hF rfl rfl 4 rfl ag23 rfl) ?_
    clear hF; intro a hF
    refine seq_yl hF (wn_none rfl) rfl rfl (yl_len hF rfl rfl (fun _ => run_lenRd sl23 (hS.rdRow 5 rfl))) ?_
    clear hF; intro a hF
    have hr703 := rnd_bounds (n2) (((q686.L).length : Nat) : Int) (by omega)
    refine seq_wp (wn_none rfl) (wp_call (vs := [_, _]) hF rfl rfl rfl rfl cf11 (round_any (n2) (((q686.L).length : Nat) : Int) _ (by omega)) ?_)
    clear hF; rintro _ w ⟨rfl, hS1⟩ a hF
    replace hS := hS.callB hS1 rfl; clear hS1
    obtain ⟨rn704, hrn704⟩ : ∃ nn9 : Nat, (rnd (n2) (((q686.L).length : Nat) : Int)) = nn9 := ⟨(rnd (n2) (((q686.L).length : Nat) : Int)).toNat, by omega⟩; rw [hrn704] at hF
    refine seq_yl hF (wn_none rfl) rfl rfl (yl_assign hF rfl rfl) ?_
    clear hF; intro a hF
    refine wpList_nil ?_
    refine then_n ?_
    refine c_seq ?_
    refine c_cut (fun a w => ∃ (L708 : List E39) (x709 : E39) (x705 : E39) (b710 : Bool) (g712 : Nat) (g713 : Nat) (Av707 : Option Addr) (cv707 : Nat) (ad706 : Addr), (L708 = q686.L.take rn704 ++ q686.L.drop (rn704 + 1) ∧ x709 = x705 ∧ b710 = true ∧ L708.length + 1 = q686.L.length ∧ q686.L[rn704]? = some x705) ∧ Fr 129 a [(6, .bool false), (7, .pointer (some ⟨g697, 0, none⟩)), (12, .int .i64 ((rn704 : Nat) : Int)), (13, .pointer (some ⟨g712, 0, none⟩)), (14, .pointer (some ⟨g713, 0, none⟩)), (15, .bool b710)] ∧ Sat w0 w (.box g713 39 #[.int .i64 (x709.f0), .int .i64 (x709.f1), .int .i64 (x709.f2), .int .i64 (x709.f3), .string x709.f4, .bool x709.f5, .int .i64 (x709.f6), .int .i64 (x709.f7), .int .i64 (x709.f8), .int .i64 (x709.f9), .bool x709.f10, .int .i64 (x709.f11)] :: .box g712 25 #[.int .i64 ((q686.d)), .int .i64 ((q686.h)), .int .i64 ((q686.f)), .slice Av707 (L708).length cv707] :: .row 39 12 (.slice Av707 (L708).length cv707) (L708).length (cells enc39 (L708)) :: .box g701 25 #[.int .i64 ((q686.d)), .int .i64 (0 : Int), .int .i64 ((now690)), .slice Av699 (([] : List E39)).length cv699] :: .row 39 12 (.slice Av699 (([] : List E39)).length cv699) (([] : List E39)).length (cells enc39 (([] : List E39))) :: .row 39 12 (.slice Av700 (q686.L).length cv700) (q686.L).length (cells enc39 (q686.L)) :: .box g698 27 #[.int .i64 (b687), .int .i64 (e688), .int .i64 (m689)] :: .box g697 25 #[.int .i64 (q686.d), .int .i64 (q686.h), .int .i64 (q686.f), .slice (some ad706) (q686.L).length cv691] :: .row 39 12 (.slice (some ad706) (q686.L).length cv691) (q686.L).length (cells enc39 (q686.L)) :: .ro 1 (.slice Av (L).length cv) (L).length (cells encI (L)) :: [])) ?_ ?_
    · skip
      refine ha_startS hS [4, 5] 17 (by kernel_rfl) ?_; clear hS; intro w hS
      have hSS := hS.sub [4, 5] (by decide) rfl (by simp)
      refine ha_y 1 hF rfl rfl rfl (wn_none rfl) (.inr hSS) (yl_fieldAddr hF rfl rfl (fun w => by kernel_rfl : ∀ w, (Instr.fieldAt 25 (.pointer (some ⟨g697, 0, none⟩)) 3).run Try.prog w = .ok (.pointer (some ⟨g697, 3, none⟩)) w)) ?_
      clear hF; intro a hF
      refine ha_y 3 hF rfl rfl rfl (wn_none rfl) (.inr hSS) (yl_move hF rfl rfl) ?_
      clear hF; intro a hF
      refine ha_l 0 hF rfl rfl rfl (wn_none rfl) hSS (yl_loadK (rs := [_, _, _, _]) (fun _ h => h) hF rfl rfl 0 rfl ag25 sz25 rfl rfl) ?_
      clear hF; intro a hF
      refine ha_l 2 hF rfl rfl rfl (wn_none rfl) hSS (yl_load (fun _ h => h) hF rfl rfl 0 rfl ag23 rfl) ?_
      clear hF; intro a hF
      have hlt_hx714 : rn704 < (q686.L).length := by first | omega | (simp; done) | (simp; omega)
      obtain ⟨ad715, rfl⟩ := rd_some (hS.rdRow 5 rfl) hlt_hx714
      obtain ⟨x714, hx714⟩ := get_some hlt_hx714
      refine ha_y 4 hF rfl rfl rfl (wn_none rfl) (.inr hSS) (yl_indexAddr hF rfl rfl rfl (fun _ => run_idx' sl23 sz39 (hS.rdRow 5 rfl) hlt_hx714)) ?_
      clear hF; intro a hF
      refine ha_y 5 hF rfl rfl rfl (wn_none rfl) (.inr hSS) (yl_fieldAddr hF rfl rfl (fun w => run_fa0 fo39_0)) ?_
      clear hF; intro a hF
      refine ha_l 6 hF rfl rfl rfl (wn_none rfl) hSS (yl_loadAt hF rfl rfl ag3 (fun _ h => rd_cell0 (enc := enc39) (Sat.rdRow h 1 rfl) enc39_len hx714 rfl rfl)) ?_
      clear hF; intro a hF
      refine ha_all (rs := [7, 12, 13]) (by kernel_rfl) (by simp) ?_
      refine List.forall_mem_cons.2 ⟨?_, List.forall_mem_cons.2 ⟨?_, List.forall_mem_cons.2 ⟨?_, (fun _ h => by cases h)⟩⟩⟩
      · skip
        refine ha_op 7 rfl (wn_none rfl) (wp_call (vs := [_, _]) hF rfl rfl rfl rfl cf21 (take_any (q686.d) (q686.h) (q686.f) q686.L (x714.f0) _ _ (hS.rdRow 5 rfl) (by first | omega | (simp; done) | (simp; omega))) ?_)
        clear hF; rintro _ w ⟨v716, L717, x718, b719, rfl, ht720, hS1⟩ a hF
        replace hS := hS.callB hS1 rfl; clear hS1
        obtain ⟨Av716, cv716, rfl⟩ := hS.form 0 rfl
        have hlht720 := take_len ht720
        replace hSS := hS.sub [5, 6] (by decide) rfl (by simp)
        refine ⟨.inr hSS, ?_⟩
        refine ha_y 8 hF rfl rfl rfl (wn_none rfl) (.inr hSS) (yl_move hF rfl rfl) ?_
        clear hF; intro a hF
        refine ha_y 9 hF rfl rfl rfl (wn_none rfl) (.inr hSS) (yl_extract hF rfl rfl rfl) ?_
        clear hF; intro a hF
        refine ha_y 10 hF rfl rfl rfl (wn_none rfl) (.inr hSS) (yl_extract hF rfl rfl rfl) ?_
        clear hF; intro a hF
        refine ha_y 11 hF rfl rfl rfl (wn_none rfl) (.inr hSS) (yl_extract hF rfl rfl rfl) ?_
        clear hF; intro a hF
        refine ha_all (rs := [12, 13]) (by kernel_rfl) (by simp) ?_
        refine List.forall_mem_cons.2 ⟨?_, List.forall_mem_cons.2 ⟨?_, (fun _ h => by cases h)⟩⟩
        · skip
          refine ha_op 12 rfl (wn_none rfl) (wp_alloc (cs := #[_, _, _, _]) hF hS rfl rfl rfl zr25 rfl ?_)
          clear hF hS; intro a w g721 hF hS
          replace hSS := hS.sub [6, 7] (by decide) rfl (by simp)
          refine ⟨.inr hSS, ?_⟩
          refine ha_one 13 (by kernel_rfl) rfl (wn_none rfl) (wp_alloc (cs := #[_, _, _, _, _, _, _, _, _, _, _, _]) hF hS rfl rfl rfl zr39 rfl ?_)
          clear hF hS; intro a w g722 hF hS
          replace hSS := hS.sub [7, 8] (by decide) rfl (by simp)
          refine ⟨.inr hSS, ?_⟩
          refine ha_one 14 (by kernel_rfl) rfl (wn_none rfl) (wp_store (cs' := #[_, _, _, _]) hF hS rfl rfl rfl rfl 1 rfl sz25 (by simp [Value.cells, Value.oneCell']) (by simp [Value.cells]) rfl ?_)
          clear hF hS; intro a w hF hS
          replace hSS := hS.sub [7, 8] (by decide) rfl (by simp)
          refine ⟨.inr hSS, ?_⟩
          refine ha_one 15 (by kernel_rfl) rfl (wn_none rfl) (wp_store (cs' := #[_, _, _, _, _, _, _, _, _, _, _, _]) hF hS rfl rfl rfl rfl 0 rfl sz39 (by simp [Value.cells, Value.oneCell']) (by simp [Value.cells]) rfl ?_)
          clear hF hS; intro a w hF hS
          replace hSS := hS.sub [7, 8] (by decide) rfl (by simp)
          refine ⟨.inr hSS, ?_⟩
          refine ha_y 16 hF rfl rfl rfl (wn_none rfl) (.inr hSS) (yl_assign hF rfl rfl) ?_
          clear hF; intro a hF
          refine ha_done (by kernel_rfl) ?_ _
          refine cut_n ?_
          exact ⟨_, _, _, _, _, _, _, _, _, by obtain ⟨hL1, hy1, hb1, hl1⟩ := take_at hq692.nd hx714 ht720; exact ⟨hL1, hy1, hb1, hl1, hx714⟩, hF.to [6, 7, 12, 13, 14, 15] rfl, (hS.sub [0, 1, 2, 3, 4, 5, 6, 7, 8, 9] (by decide) (by first | rfl | simp) (by simp))⟩
        · skip
          refine ha_op 13 rfl (wn_none rfl) (wp_alloc (cs := #[_, _, _, _, _, _, _, _, _, _, _, _]) hF hS rfl rfl rfl zr39 rfl ?_)
          clear hF hS; intro a w g723 hF hS
          replace hSS := hS.sub [6, 7] (by decide) rfl (by simp)
          refine ⟨.inr hSS, ?_⟩
          refine ha_one 12 (by kernel_rfl) rfl (wn_none rfl) (wp_alloc (cs := #[_, _, _, _]) hF hS rfl rfl rfl zr25 rfl ?_)
          clear hF hS; intro a w g724 hF hS
          replace hSS := hS.sub [7, 8] (by decide) rfl (by simp)
          refine ⟨.inr hSS, ?_⟩
          refine ha_one 14 (by kernel_rfl) rfl (wn_none rfl) (wp_store (cs' := #[_, _, _, _]) hF hS rfl rfl rfl rfl 0 rfl sz25 (by simp [Value.cells, Value.oneCell']) (by simp [Value.cells]) rfl ?_)
          clear hF hS; intro a w hF hS
          replace hSS := hS.sub [7, 8] (by decide) rfl (by simp)
          refine ⟨.inr hSS, ?_⟩
          refine ha_one 15 (by kernel_rfl) rfl (wn_none rfl) (wp_store (cs' := #[_, _, _, _, _, _, _, _, _, _, _, _]) hF hS rfl rfl rfl rfl 1 rfl sz39 (by simp [Value.cells, Value.oneCell']) (by simp [Value.cells]) rfl ?_)
          clear hF hS; intro a w hF hS
          replace hSS := hS.sub [7, 8] (by decide) rfl (by simp)
          refine ⟨.inr hSS, ?_⟩
          refine ha_y 16 hF rfl rfl rfl (wn_none rfl) (.inr hSS) (yl_assign hF rfl rfl) ?_
          clear hF; intro a hF
          refine ha_done (by kernel_rfl) ?_ _
          refine cut_n ?_
          exact ⟨_, _, _, _, _, _, _, _, _, by obtain ⟨hL1, hy1, hb1, hl1⟩ := take_at hq692.nd hx714 ht720; exact ⟨hL1, hy1, hb1, hl1, hx714⟩, hF.to [6, 7, 12, 13, 14, 15] rfl, (hS.sub [1, 0, 2, 3, 4, 5, 6, 7, 8, 9] (by decide) (by first | rfl | simp) (by simp))⟩
      · skip
        refine ha_op 12 rfl (wn_none rfl) (wp_alloc (cs := #[_, _, _, _]) hF hS rfl rfl rfl zr25 rfl ?_)
        clear hF hS; intro a w g725 hF hS
        replace hSS := hS.sub [5, 6] (by decide) rfl (by simp)
        refine ⟨.inr hSS, ?_⟩
        refine ha_all (rs := [7, 13]) (by kernel_rfl) (by simp) ?_
        refine List.forall_mem_cons.2 ⟨?_, List.forall_mem_cons.2 ⟨?_, (fun _ h => by cases h)⟩⟩
        · skip
          refine ha_op 7 rfl (wn_none rfl) (wp_call (vs := [_, _]) hF rfl rfl rfl rfl cf21 (take_any (q686.d) (q686.h) (q686.f) q686.L (x714.f0) _ _ (hS.rdRow 6 rfl) (by first | omega | (simp; done) | (simp; omega))) ?_)
          clear hF; rintro _ w ⟨v726, L727, x728, b729, rfl, ht730, hS1⟩ a hF
          replace hS := hS.callB hS1 rfl; clear hS1
          obtain ⟨Av726, cv726, rfl⟩ := hS.form 0 rfl
          have hlht730 := take_len ht730
          replace hSS := hS.sub [6, 7] (by decide) rfl (by simp)
          refine ⟨.inr hSS, ?_⟩
          refine ha_y 8 hF rfl rfl rfl (wn_none rfl) (.inr hSS) (yl_move hF rfl rfl) ?_
          clear hF; intro a hF
          refine ha_y 9 hF rfl rfl rfl (wn_none rfl) (.inr hSS) (yl_extract hF rfl rfl rfl) ?_
          clear hF; intro a hF
          refine ha_y 10 hF rfl rfl rfl (wn_none rfl) (.inr hSS) (yl_extract hF rfl rfl rfl) ?_
          clear hF; intro a hF
          refine ha_y 11 hF rfl rfl rfl (wn_none rfl) (.inr hSS) (yl_extract hF rfl rfl rfl) ?_
          clear hF; intro a hF
          refine ha_one 13 (by kernel_rfl) rfl (wn_none rfl) (wp_alloc (cs := #[_, _, _, _, _, _, _, _, _, _, _, _]) hF hS rfl rfl rfl zr39 rfl ?_)
          clear hF hS; intro a w g731 hF hS
          replace hSS := hS.sub [7, 8] (by decide) rfl (by simp)
          refine ⟨.inr hSS, ?_⟩
          refine ha_one 14 (by kernel_rfl) rfl (wn_none rfl) (wp_store (cs' := #[_, _, _, _]) hF hS rfl rfl rfl rfl 2 rfl sz25 (by simp [Value.cells, Value.oneCell']) (by simp [Value.cells]) rfl ?_)
          clear hF hS; intro a w hF hS
          replace hSS := hS.sub [7, 8] (by decide) rfl (by simp)
          refine ⟨.inr hSS, ?_⟩
          refine ha_one 15 (by kernel_rfl) rfl (wn_none rfl) (wp_store (cs' := #[_, _, _, _, _, _, _, _, _, _, _, _]) hF hS rfl rfl rfl rfl 0 rfl sz39 (by simp [Value.cells, Value.oneCell']) (by simp [Value.cells]) rfl ?_)
          clear hF hS; intro a w hF hS
          replace hSS := hS.sub [7, 8] (by decide) rfl (by simp)
          refine ⟨.inr hSS, ?_⟩
          refine ha_y 16 hF rfl rfl rfl (wn_none rfl) (.inr hSS) (yl_assign hF rfl rfl) ?_
          clear hF; intro a hF
          refine ha_done (by kernel_rfl) ?_ _
          refine cut_n ?_
          exact ⟨_, _, _, _, _, _, _, _, _, by obtain ⟨hL1, hy1, hb1, hl1⟩ := take_at hq692.nd hx714 ht730; exact ⟨hL1, hy1, hb1, hl1, hx714⟩, hF.to [6, 7, 12, 13, 14, 15] rfl, (hS.sub [0, 2, 1, 3, 4, 5, 6, 7, 8, 9] (by decide) (by first | rfl | simp) (by simp))⟩
        · skip
          refine ha_op 13 rfl (wn_none rfl) (wp_alloc (cs := #[_, _, _, _, _, _, _, _, _, _, _, _]) hF hS rfl rfl rfl zr39 rfl ?_)
          clear hF hS; intro a w g732 hF hS
          replace hSS := hS.sub [6, 7] (by decide) rfl (by simp)
          refine ⟨.inr hSS, ?_⟩
          refine ha_one 7 (by kernel_rfl) rfl (wn_none rfl) (wp_call (vs := [_, _]) hF rfl rfl rfl rfl cf21 (take_any (q686.d) (q686.h) (q686.f) q686.L (x714.f0) _ _ (hS.rdRow 7 rfl) (by first | omega | (simp; done) | (simp; omega))) ?_)
          clear hF; rintro _ w ⟨v733, L734, x735, b736, rfl, ht737, hS1⟩ a hF
          replace hS := hS.callB hS1 rfl; clear hS1
          obtain ⟨Av733, cv733, rfl⟩ := hS.form 0 rfl
          have hlht737 := take_len ht737
          replace hSS := hS.sub [7, 8] (by decide) rfl (by simp)
          refine ⟨.inr hSS, ?_⟩
          refine ha_y 8 hF rfl rfl rfl (wn_none rfl) (.inr hSS) (yl_move hF rfl rfl) ?_
          clear hF; intro a hF
          refine ha_y 9 hF rfl rfl rfl (wn_none rfl) (.inr hSS) (yl_extract hF rfl rfl rfl) ?_
          clear hF; intro a hF
          refine ha_y 10 hF rfl rfl rfl (wn_none rfl) (.inr hSS) (yl_extract hF rfl rfl rfl) ?_
          clear hF; intro a hF
          refine ha_y 11 hF rfl rfl rfl (wn_none rfl) (.inr hSS) (yl_extract hF rfl rfl rfl) ?_
          clear hF; intro a hF
          refine ha_one 14 (by kernel_rfl) rfl (wn_none rfl) (wp_store (cs' := #[_, _, _, _]) hF hS rfl rfl rfl rfl 2 rfl sz25 (by simp [Value.cells, Value.oneCell']) (by simp [Value.cells]) rfl ?_)
          clear hF hS; intro a w hF hS
          replace hSS := hS.sub [7, 8] (by decide) rfl (by simp)
          refine ⟨.inr hSS, ?_⟩
          refine ha_one 15 (by kernel_rfl) rfl (wn_none rfl) (wp_store (cs' := #[_, _, _, _, _, _, _, _, _, _, _, _]) hF hS rfl rfl rfl rfl 1 rfl sz39 (by simp [Value.cells, Value.oneCell']) (by simp [Value.cells]) rfl ?_)
          clear hF hS; intro a w hF hS
          replace hSS := hS.sub [7, 8] (by decide) rfl (by simp)
          refine ⟨.inr hSS, ?_⟩
          refine ha_y 16 hF rfl rfl rfl (wn_none rfl) (.inr hSS) (yl_assign hF rfl rfl) ?_
          clear hF; intro a hF
          refine ha_done (by kernel_rfl) ?_ _
          refine cut_n ?_
          exact ⟨_, _, _, _, _, _, _, _, _, by obtain ⟨hL1, hy1, hb1, hl1⟩ := take_at hq692.nd hx714 ht737; exact ⟨hL1, hy1, hb1, hl1, hx714⟩, hF.to [6, 7, 12, 13, 14, 15] rfl, (hS.sub [1, 2, 0, 3, 4, 5, 6, 7, 8, 9] (by decide) (by first | rfl | simp) (by simp))⟩
      · skip
        refine ha_op 13 rfl (wn_none rfl) (wp_alloc (cs := #[_, _, _, _, _, _, _, _, _, _, _, _]) hF hS rfl rfl rfl zr39 rfl ?_)
        clear hF hS; intro a w g738 hF hS
        replace hSS := hS.sub [5, 6] (by decide) rfl (by simp)
        refine ⟨.inr hSS, ?_⟩
        refine ha_all (rs := [7, 12]) (by kernel_rfl) (by simp) ?_
        refine List.forall_mem_cons.2 ⟨?_, List.forall_mem_cons.2 ⟨?_, (fun _ h => by cases h)⟩⟩
        · skip
          refine ha_op 7 rfl (wn_none rfl) (wp_call (vs := [_, _]) hF rfl rfl rfl rfl cf21 (take_any (q686.d) (q686.h) (q686.f) q686.L (x714.f0) _ _ (hS.rdRow 6 rfl) (by first | omega | (simp; done) | (simp; omega))) ?_)
          clear hF; rintro _ w ⟨v739, L740, x741, b742, rfl, ht743, hS1⟩ a hF
          replace hS := hS.callB hS1 rfl; clear hS1
          obtain ⟨Av739, cv739, rfl⟩ := hS.form 0 rfl
          have hlht743 := take_len ht743
          replace hSS := hS.sub [6, 7] (by decide) rfl (by simp)
          refine ⟨.inr hSS, ?_⟩
          refine ha_y 8 hF rfl rfl rfl (wn_none rfl) (.inr hSS) (yl_move hF rfl rfl) ?_
          clear hF; intro a hF
          refine ha_y 9 hF rfl rfl rfl (wn_none rfl) (.inr hSS) (yl_extract hF rfl rfl rfl) ?_
          clear hF; intro a hF
          refine ha_y 10 hF rfl rfl rfl (wn_none rfl) (.inr hSS) (yl_extract hF rfl rfl rfl) ?_
          clear hF; intro a hF
          refine ha_y 11 hF rfl rfl rfl (wn_none rfl) (.inr hSS) (yl_extract hF rfl rfl rfl) ?_
          clear hF; intro a hF
          refine ha_one 12 (by kernel_rfl) rfl (wn_none rfl) (wp_alloc (cs := #[_, _, _, _]) hF hS rfl rfl rfl zr25 rfl ?_)
          clear hF hS; intro a w g744 hF hS
          replace hSS := hS.sub [7, 8] (by decide) rfl (by simp)
          refine ⟨.inr hSS, ?_⟩
          refine ha_one 14 (by kernel_rfl) rfl (wn_none rfl) (wp_store (cs' := #[_, _, _, _]) hF hS rfl rfl rfl rfl 0 rfl sz25 (by simp [Value.cells, Value.oneCell']) (by simp [Value.cells]) rfl ?_)
          clear hF hS; intro a w hF hS
          replace hSS := hS.sub [7, 8] (by decide) rfl (by simp)
          refine ⟨.inr hSS, ?_⟩
          refine ha_one 15 (by kernel_rfl) rfl (wn_none rfl) (wp_store (cs' := #[_, _, _, _, _, _, _, _, _, _, _, _]) hF hS rfl rfl rfl rfl 2 rfl sz39 (by simp [Value.cells, Value.oneCell']) (by simp [Value.cells]) rfl ?_)
          clear hF hS; intro a w hF hS
          replace hSS := hS.sub [7, 8] (by decide) rfl (by simp)
          refine ⟨.inr hSS, ?_⟩
          refine ha_y 16 hF rfl rfl rfl (wn_none rfl) (.inr hSS) (yl_assign hF rfl rfl) ?_
          clear hF; intro a hF
          refine ha_done (by kernel_rfl) ?_ _
          refine cut_n ?_
          exact ⟨_, _, _, _, _, _, _, _, _, by obtain ⟨hL1, hy1, hb1, hl1⟩ := take_at hq692.nd hx714 ht743; exact ⟨hL1, hy1, hb1, hl1, hx714⟩, hF.to [6, 7, 12, 13, 14, 15] rfl, (hS.sub [2, 0, 1, 3, 4, 5, 6, 7, 8, 9] (by decide) (by first | rfl | simp) (by simp))⟩
        · skip
          refine ha_op 12 rfl (wn_none rfl) (wp_alloc (cs := #[_, _, _, _]) hF hS rfl rfl rfl zr25 rfl ?_)
          clear hF hS; intro a w g745 hF hS
          replace hSS := hS.sub [6, 7] (by decide) rfl (by simp)
          refine ⟨.inr hSS, ?_⟩
          refine ha_one 7 (by kernel_rfl) rfl (wn_none rfl) (wp_call (vs := [_, _]) hF rfl rfl rfl rfl cf21 (take_any (q686.d) (q686.h) (q686.f) q686.L (x714.f0) _ _ (hS.rdRow 7 rfl) (by first | omega | (simp; done) | (simp; omega))) ?_)
          clear hF; rintro _ w ⟨v746, L747, x748, b749, rfl, ht750, hS1⟩ a hF
          replace hS := hS.callB hS1 rfl; clear hS1
          obtain ⟨Av746, cv746, rfl⟩ := hS.form 0 rfl
          have hlht750 := take_len ht750
          replace hSS := hS.sub [7, 8] (by decide) rfl (by simp)
          refine ⟨.inr hSS, ?_⟩
          refine ha_y 8 hF rfl rfl rfl (wn_none rfl) (.inr hSS) (yl_move hF rfl rfl) ?_
          clear hF; intro a hF
          refine ha_y 9 hF rfl rfl rfl (wn_none rfl) (.inr hSS) (yl_extract hF rfl rfl rfl) ?_
          clear hF; intro a hF
          refine ha_y 10 hF rfl rfl rfl (wn_none rfl) (.inr hSS) (yl_extract hF rfl rfl rfl) ?_
          clear hF; intro a hF
          refine ha_y 11 hF rfl rfl rfl (wn_none rfl) (.inr hSS) (yl_extract hF rfl rfl rfl) ?_
          clear hF; intro a hF
          refine ha_one 14 (by kernel_rfl) rfl (wn_none rfl) (wp_store (cs' := #[_, _, _, _]) hF hS rfl rfl rfl rfl 1 rfl sz25 (by simp [Value.cells, Value.oneCell']) (by simp [Value.cells]) rfl ?_)
          clear hF hS; intro a w hF hS
          replace hSS := hS.sub [7, 8] (by decide) rfl (by simp)
          refine ⟨.inr hSS, ?_⟩
          refine ha_one 15 (by kernel_rfl) rfl (wn_none rfl) (wp_store (cs' := #[_, _, _, _, _, _, _, _, _, _, _, _]) hF hS rfl rfl rfl rfl 2 rfl sz39 (by simp [Value.cells, Value.oneCell']) (by simp [Value.cells]) rfl ?_)
          clear hF hS; intro a w hF hS
          replace hSS := hS.sub [7, 8] (by decide) rfl (by simp)
          refine ⟨.inr hSS, ?_⟩
          refine ha_y 16 hF rfl rfl rfl (wn_none rfl) (.inr hSS) (yl_assign hF rfl rfl) ?_
          clear hF; intro a hF
          refine ha_done (by kernel_rfl) ?_ _
          refine cut_n ?_
          exact ⟨_, _, _, _, _, _, _, _, _, by obtain ⟨hL1, hy1, hb1, hl1⟩ := take_at hq692.nd hx714 ht750; exact ⟨hL1, hy1, hb1, hl1, hx714⟩, hF.to [6, 7, 12, 13, 14, 15] rfl, (hS.sub [2, 1, 0, 3, 4, 5, 6, 7, 8, 9] (by decide) (by first | rfl | simp) (by simp))⟩
    clear hF hS
    rintro a w ⟨L708, x709, x705, b710, g712, g713, Av707, cv707, ad706, hcut704_0, hF, hS⟩
    obtain ⟨hL1, hy1, hb1, hl1, hx1⟩ := hcut704_0
    refine then_n ?_
    refine c_seq ?_
    refine c_cut (fun a w => ∃ (b755 : Bool), (b755 = false) ∧ Fr 129 a [(6, .bool false), (7, .pointer (some ⟨g697, 0, none⟩)), (12, .int .i64 ((rn704 : Nat) : Int)), (13, .pointer (some ⟨g712, 0, none⟩)), (14, .pointer (some ⟨g713, 0, none⟩)), (15, .bool b710), (18, .bool b755)] ∧ Sat w0 w (.box g713 39 #[.int .i64 (x709.f0), .int .i64 (x709.f1), .int .i64 (x709.f2), .int .i64 (x709.f3), .string x709.f4, .bool x709.f5, .int .i64 (x709.f6), .int .i64 (x709.f7), .int .i64 (x709.f8), .int .i64 (x709.f9), .bool x709.f10, .int .i64 (x709.f11)] :: .box g712 25 #[.int .i64 ((q686.d)), .int .i64 ((q686.h)), .int .i64 ((q686.f)), .slice Av707 (L708).length cv707] :: .row 39 12 (.slice Av707 (L708).length cv707) (L708).length (cells enc39 (L708)) :: .box g701 25 #[.int .i64 ((q686.d)), .int .i64 (0 : Int), .int .i64 ((now690)), .slice Av699 (([] : List E39)).length cv699] :: .row 39 12 (.slice Av699 (([] : List E39)).length cv699) (([] : List E39)).length (cells enc39 (([] : List E39))) :: .row 39 12 (.slice Av700 (q686.L).length cv700) (q686.L).length (cells enc39 (q686.L)) :: .box g698 27 #[.int .i64 (b687), .int .i64 (e688), .int .i64 (m689)] :: .box g697 25 #[.int .i64 (q686.d), .int .i64 (q686.h), .int .i64 (q686.f), .slice (some ad706) (q686.L).length cv691] :: .row 39 12 (.slice (some ad706) (q686.L).length cv691) (q686.L).length (cells enc39 (q686.L)) :: .ro 1 (.slice Av (L).length cv) (L).length (cells encI (L)) :: [])) ?_ ?_
    · skip
      refine ha_startS hS [1, 7, 8] 17 (by kernel_rfl) ?_; clear hS; intro w hS
      have hSS := hS.sub [1, 7, 8] (by decide) rfl (by simp)
      refine ha_y 1 hF rfl rfl rfl (wn_none rfl) (.inr hSS) (yl_fieldAddr hF rfl rfl (fun w => by kernel_rfl : ∀ w, (Instr.fieldAt 25 (.pointer (some ⟨g697, 0, none⟩)) 3).run Try.prog w = .ok (.pointer (some ⟨g697, 3, none⟩)) w)) ?_
      clear hF; intro a hF
      refine ha_y 3 hF rfl rfl rfl (wn_none rfl) (.inr hSS) (yl_move hF rfl rfl) ?_
      clear hF; intro a hF
      refine ha_l 0 hF rfl rfl rfl (wn_none rfl) hSS (yl_loadK (rs := [_, _, _, _]) (fun _ h => h) hF rfl rfl 0 rfl ag25 sz25 rfl rfl) ?_
      clear hF; intro a hF
      refine ha_l 2 hF rfl rfl rfl (wn_none rfl) hSS (yl_load (fun _ h => h) hF rfl rfl 1 rfl ag23 rfl) ?_
      clear hF; intro a hF
      have hlt_hx759 : rn704 < (q686.L).length := by first | omega | (simp; done) | (simp; omega)
      obtain ⟨x759, hx759⟩ := get_some hlt_hx759
      refine ha_y 4 hF rfl rfl rfl (wn_none rfl) (.inr hSS) (yl_indexAddr hF rfl rfl rfl (fun _ => run_idx' sl23 sz39 (hS.rdRow 8 rfl) hlt_hx759)) ?_
      clear hF; intro a hF
      refine ha_y 5 hF rfl rfl rfl (wn_none rfl) (.inr hSS) (yl_fieldAddr hF rfl rfl (fun w => run_fa0 fo39_0)) ?_
      clear hF; intro a hF
      refine ha_l 6 hF rfl rfl rfl (wn_none rfl) hSS (yl_loadAt hF rfl rfl ag3 (fun _ h => rd_cell0 (enc := enc39) (Sat.rdRow h 2 rfl) enc39_len hx759 rfl rfl)) ?_
      clear hF; intro a hF
      refine ha_all (rs := [7, 12, 13]) (by kernel_rfl) (by simp) ?_
      refine List.forall_mem_cons.2 ⟨?_, List.forall_mem_cons.2 ⟨?_, List.forall_mem_cons.2 ⟨?_, (fun _ h => by cases h)⟩⟩⟩
      · skip
        refine ha_op 7 rfl (wn_none rfl) (wp_call (vs := [_, _]) hF rfl rfl rfl rfl cf21 (take_any ((q686.d)) ((q686.h)) ((q686.f)) L708 (x759.f0) _ _ (hS.rdRow 2 rfl) (by first | omega | (simp; done) | (simp; omega))) ?_)
        clear hF; rintro _ w ⟨v760, L761, x762, b763, rfl, ht764, hS1⟩ a hF
        replace hS := hS.callB hS1 rfl; clear hS1
        obtain ⟨Av760, cv760, rfl⟩ := hS.form 0 rfl
        have hlht764 := take_len ht764
        replace hSS := hS.sub [2, 8, 9] (by decide) rfl (by simp)
        refine ⟨.inr hSS, ?_⟩
        refine ha_y 8 hF rfl rfl rfl (wn_none rfl) (.inr hSS) (yl_move hF rfl rfl) ?_
        clear hF; intro a hF
        refine ha_y 9 hF rfl rfl rfl (wn_none rfl) (.inr hSS) (yl_extract hF rfl rfl rfl) ?_
        clear hF; intro a hF
        refine ha_y 10 hF rfl rfl rfl (wn_none rfl) (.inr hSS) (yl_extract hF rfl rfl rfl) ?_
        clear hF; intro a hF
        refine ha_y 11 hF rfl rfl rfl (wn_none rfl) (.inr hSS) (yl_extract hF rfl rfl rfl) ?_
        clear hF; intro a hF
        refine ha_all (rs := [12, 13]) (by kernel_rfl) (by simp) ?_
        refine List.forall_mem_cons.2 ⟨?_, List.forall_mem_cons.2 ⟨?_, (fun _ h => by cases h)⟩⟩
        · skip
          refine ha_op 12 rfl (wn_none rfl) (wp_alloc (cs := #[_, _, _, _]) hF hS rfl rfl rfl zr25 rfl ?_)
          clear hF hS; intro a w g765 hF hS
          replace hSS := hS.sub [3, 9, 10] (by decide) rfl (by simp)
          refine ⟨.inr hSS, ?_⟩
          refine ha_one 13 (by kernel_rfl) rfl (wn_none rfl) (wp_alloc (cs := #[_, _, _, _, _, _, _, _, _, _, _, _]) hF hS rfl rfl rfl zr39 rfl ?_)
          clear hF hS; intro a w g766 hF hS
          replace hSS := hS.sub [4, 10, 11] (by decide) rfl (by simp)
          refine ⟨.inr hSS, ?_⟩
          refine ha_one 14 (by kernel_rfl) rfl (wn_none rfl) (wp_store (cs' := #[_, _, _, _]) hF hS rfl rfl rfl rfl 1 rfl sz25 (by simp [Value.cells, Value.oneCell']) (by simp [Value.cells]) rfl ?_)
          clear hF hS; intro a w hF hS
          replace hSS := hS.sub [4, 10, 11] (by decide) rfl (by simp)
          refine ⟨.inr hSS, ?_⟩
          refine ha_one 15 (by kernel_rfl) rfl (wn_none rfl) (wp_store (cs' := #[_, _, _, _, _, _, _, _, _, _, _, _]) hF hS rfl rfl rfl rfl 0 rfl sz39 (by simp [Value.cells, Value.oneCell']) (by simp [Value.cells]) rfl ?_)
          clear hF hS; intro a w hF hS
          replace hSS := hS.sub [4, 10, 11] (by decide) rfl (by simp)
          refine ⟨.inr hSS, ?_⟩
          refine ha_y 16 hF rfl rfl rfl (wn_none rfl) (.inr hSS) (yl_assign hF rfl rfl) ?_
          clear hF; intro a hF
          refine ha_done (by kernel_rfl) ?_ _
          refine cut_n ?_
          exact ⟨_, take_gone hL1 hq692.nd hx759 ht764, hF.to [6, 7, 12, 13, 14, 15, 18] rfl, (hS.sub [3, 4, 5, 6, 7, 8, 9, 10, 11, 12] (by decide) (by first | rfl | simp) (by simp))⟩
        · skip
          refine ha_op 13 rfl (wn_none rfl) (wp_alloc (cs := #[_, _, _, _, _, _, _, _, _, _, _, _]) hF hS rfl rfl rfl zr39 rfl ?_)
          clear hF hS; intro a w g767 hF hS
          replace hSS := hS.sub [3, 9, 10] (by decide) rfl (by simp)
          refine ⟨.inr hSS, ?_⟩
          refine ha_one 12 (by kernel_rfl) rfl (wn_none rfl) (wp_alloc (cs := #[_, _, _, _]) hF hS rfl rfl rfl zr25 rfl ?_)
          clear hF hS; intro a w g768 hF hS
          replace hSS := hS.sub [4, 10, 11] (by decide) rfl (by simp)
          refine ⟨.inr hSS, ?_⟩
          refine ha_one 14 (by kernel_rfl) rfl (wn_none rfl) (wp_store (cs' := #[_, _, _, _]) hF hS rfl rfl rfl rfl 0 rfl sz25 (by simp [Value.cells, Value.oneCell']) (by simp [Value.cells]) rfl ?_)
          clear hF hS; intro a w hF hS
          replace hSS := hS.sub [4, 10, 11] (by decide) rfl (by simp)
          refine ⟨.inr hSS, ?_⟩
          refine ha_one 15 (by kernel_rfl) rfl (wn_none rfl) (wp_store (cs' := #[_, _, _, _, _, _, _, _, _, _, _, _]) hF hS rfl rfl rfl rfl 1 rfl sz39 (by simp [Value.cells, Value.oneCell']) (by simp [Value.cells]) rfl ?_)
          clear hF hS; intro a w hF hS
          replace hSS := hS.sub [4, 10, 11] (by decide) rfl (by simp)
          refine ⟨.inr hSS, ?_⟩
          refine ha_y 16 hF rfl rfl rfl (wn_none rfl) (.inr hSS) (yl_assign hF rfl rfl) ?_
          clear hF; intro a hF
          refine ha_done (by kernel_rfl) ?_ _
          refine cut_n ?_
          exact ⟨_, take_gone hL1 hq692.nd hx759 ht764, hF.to [6, 7, 12, 13, 14, 15, 18] rfl, (hS.sub [3, 4, 5, 6, 7, 8, 9, 10, 11, 12] (by decide) (by first | rfl | simp) (by simp))⟩
      · skip
        refine ha_op 12 rfl (wn_none rfl) (wp_alloc (cs := #[_, _, _, _]) hF hS rfl rfl rfl zr25 rfl ?_)
        clear hF hS; intro a w g769 hF hS
        replace hSS := hS.sub [2, 8, 9] (by decide) rfl (by simp)
        refine ⟨.inr hSS, ?_⟩
        refine ha_all (rs := [7, 13]) (by kernel_rfl) (by simp) ?_
        refine List.forall_mem_cons.2 ⟨?_, List.forall_mem_cons.2 ⟨?_, (fun _ h => by cases h)⟩⟩
        · skip
          refine ha_op 7 rfl (wn_none rfl) (wp_call (vs := [_, _]) hF rfl rfl rfl rfl cf21 (take_any ((q686.d)) ((q686.h)) ((q686.f)) L708 (x759.f0) _ _ (hS.rdRow 3 rfl) (by first | omega | (simp; done) | (simp; omega))) ?_)
          clear hF; rintro _ w ⟨v770, L771, x772, b773, rfl, ht774, hS1⟩ a hF
          replace hS := hS.callB hS1 rfl; clear hS1
          obtain ⟨Av770, cv770, rfl⟩ := hS.form 0 rfl
          have hlht774 := take_len ht774
          replace hSS := hS.sub [3, 9, 10] (by decide) rfl (by simp)
          refine ⟨.inr hSS, ?_⟩
          refine ha_y 8 hF rfl rfl rfl (wn_none rfl) (.inr hSS) (yl_move hF rfl rfl) ?_
          clear hF; intro a hF
          refine ha_y 9 hF rfl rfl rfl (wn_none rfl) (.inr hSS) (yl_extract hF rfl rfl rfl) ?_
          clear hF; intro a hF
          refine ha_y 10 hF rfl rfl rfl (wn_none rfl) (.inr hSS) (yl_extract hF rfl rfl rfl) ?_
          clear hF; intro a hF
          refine ha_y 11 hF rfl rfl rfl (wn_none rfl) (.inr hSS) (yl_extract hF rfl rfl rfl) ?_
          clear hF; intro a hF
          refine ha_one 13 (by kernel_rfl) rfl (wn_none rfl) (wp_alloc (cs := #[_, _, _, _, _, _, _, _, _, _, _, _]) hF hS rfl rfl rfl zr39 rfl ?_)
          clear hF hS; intro a w g775 hF hS
          replace hSS := hS.sub [4, 10, 11] (by decide) rfl (by simp)
          refine ⟨.inr hSS, ?_⟩
          refine ha_one 14 (by kernel_rfl) rfl (wn_none rfl) (wp_store (cs' := #[_, _, _, _]) hF hS rfl rfl rfl rfl 2 rfl sz25 (by simp [Value.cells, Value.oneCell']) (by simp [Value.cells]) rfl ?_)
          clear hF hS; intro a w hF hS
          replace hSS := hS.sub [4, 10, 11] (by decide) rfl (by simp)
          refine ⟨.inr hSS, ?_⟩
          refine ha_one 15 (by kernel_rfl) rfl (wn_none rfl) (wp_store (cs' := #[_, _, _, _, _, _, _, _, _, _, _, _]) hF hS rfl rfl rfl rfl 0 rfl sz39 (by simp [Value.cells, Value.oneCell']) (by simp [Value.cells]) rfl ?_)
          clear hF hS; intro a w hF hS
          replace hSS := hS.sub [4, 10, 11] (by decide) rfl (by simp)
          refine ⟨.inr hSS, ?_⟩
          refine ha_y 16 hF rfl rfl rfl (wn_none rfl) (.inr hSS) (yl_assign hF rfl rfl) ?_
          clear hF; intro a hF
          refine ha_done (by kernel_rfl) ?_ _
          refine cut_n ?_
          exact ⟨_, take_gone hL1 hq692.nd hx759 ht774, hF.to [6, 7, 12, 13, 14, 15, 18] rfl, (hS.sub [3, 4, 5, 6, 7, 8, 9, 10, 11, 12] (by decide) (by first | rfl | simp) (by simp))⟩
        · skip
          refine ha_op 13 rfl (wn_none rfl) (wp_alloc (cs := #[_, _, _, _, _, _, _, _, _, _, _, _]) hF hS rfl rfl rfl zr39 rfl ?_)
          clear hF hS; intro a w g776 hF hS
          replace hSS := hS.sub [3, 9, 10] (by decide) rfl (by simp)
          refine ⟨.inr hSS, ?_⟩
          refine ha_one 7 (by kernel_rfl) rfl (wn_none rfl) (wp_call (vs := [_, _]) hF rfl rfl rfl rfl cf21 (take_any ((q686.d)) ((q686.h)) ((q686.f)) L708 (x759.f0) _ _ (hS.rdRow 4 rfl) (by first | omega | (simp; done) | (simp; omega))) ?_)
          clear hF; rintro _ w ⟨v777, L778, x779, b780, rfl, ht781, hS1⟩ a hF
          replace hS := hS.callB hS1 rfl; clear hS1
          obtain ⟨Av777, cv777, rfl⟩ := hS.form 0 rfl
          have hlht781 := take_len ht781
          replace hSS := hS.sub [4, 10, 11] (by decide) rfl (by simp)
          refine ⟨.inr hSS, ?_⟩
          refine ha_y 8 hF rfl rfl rfl (wn_none rfl) (.inr hSS) (yl_move hF rfl rfl) ?_
          clear hF; intro a hF
          refine ha_y 9 hF rfl rfl rfl (wn_none rfl) (.inr hSS) (yl_extract hF rfl rfl rfl) ?_
          clear hF; intro a hF
          refine ha_y 10 hF rfl rfl rfl (wn_none rfl) (.inr hSS) (yl_extract hF rfl rfl rfl) ?_
          clear hF; intro a hF
          refine ha_y 11 hF rfl rfl rfl (wn_none rfl) (.inr hSS) (yl_extract hF rfl rfl rfl) ?_
          clear hF; intro a hF
          refine ha_one 14 (by kernel_rfl) rfl (wn_none rfl) (wp_store (cs' := #[_, _, _, _]) hF hS rfl rfl rfl rfl 2 rfl sz25 (by simp [Value.cells, Value.oneCell']) (by simp [Value.cells]) rfl ?_)
          clear hF hS; intro a w hF hS
          replace hSS := hS.sub [4, 10, 11] (by decide) rfl (by simp)
          refine ⟨.inr hSS, ?_⟩
          refine ha_one 15 (by kernel_rfl) rfl (wn_none rfl) (wp_store (cs' := #[_, _, _, _, _, _, _, _, _, _, _, _]) hF hS rfl rfl rfl rfl 1 rfl sz39 (by simp [Value.cells, Value.oneCell']) (by simp [Value.cells]) rfl ?_)
          clear hF hS; intro a w hF hS
          replace hSS := hS.sub [4, 10, 11] (by decide) rfl (by simp)
          refine ⟨.inr hSS, ?_⟩
          refine ha_y 16 hF rfl rfl rfl (wn_none rfl) (.inr hSS) (yl_assign hF rfl rfl) ?_
          clear hF; intro a hF
          refine ha_done (by kernel_rfl) ?_ _
          refine cut_n ?_
          exact ⟨_, take_gone hL1 hq692.nd hx759 ht781, hF.to [6, 7, 12, 13, 14, 15, 18] rfl, (hS.sub [3, 4, 5, 6, 7, 8, 9, 10, 11, 12] (by decide) (by first | rfl | simp) (by simp))⟩
      · skip
        refine ha_op 13 rfl (wn_none rfl) (wp_alloc (cs := #[_, _, _, _, _, _, _, _, _, _, _, _]) hF hS rfl rfl rfl zr39 rfl ?_)
        clear hF hS; intro a w g782 hF hS
        replace hSS := hS.sub [2, 8, 9] (by decide) rfl (by simp)
        refine ⟨.inr hSS, ?_⟩
        refine ha_all (rs := [7, 12]) (by kernel_rfl) (by simp) ?_
        refine List.forall_mem_cons.2 ⟨?_, List.forall_mem_cons.2 ⟨?_, (fun _ h => by cases h)⟩⟩
        · skip
          refine ha_op 7 rfl (wn_none rfl) (wp_call (vs := [_, _]) hF rfl rfl rfl rfl cf21 (take_any ((q686.d)) ((q686.h)) ((q686.f)) L708 (x759.f0) _ _ (hS.rdRow 3 rfl) (by first | omega | (simp; done) | (simp; omega))) ?_)
          clear hF; rintro _ w ⟨v783, L784, x785, b786, rfl, ht787, hS1⟩ a hF
          replace hS := hS.callB hS1 rfl; clear hS1
          obtain ⟨Av783, cv783, rfl⟩ := hS.form 0 rfl
          have hlht787 := take_len ht787
          replace hSS := hS.sub [3, 9, 10] (by decide) rfl (by simp)
          refine ⟨.inr hSS, ?_⟩
          refine ha_y 8 hF rfl rfl rfl (wn_none rfl) (.inr hSS) (yl_move hF rfl rfl) ?_
          clear hF; intro a hF
          refine ha_y 9 hF rfl rfl rfl (wn_none rfl) (.inr hSS) (yl_extract hF rfl rfl rfl) ?_
          clear hF; intro a hF
          refine ha_y 10 hF rfl rfl rfl (wn_none rfl) (.inr hSS) (yl_extract hF rfl rfl rfl) ?_
          clear hF; intro a hF
          refine ha_y 11 hF rfl rfl rfl (wn_none rfl) (.inr hSS) (yl_extract hF rfl rfl rfl) ?_
          clear hF; intro a hF
          refine ha_one 12 (by kernel_rfl) rfl (wn_none rfl) (wp_alloc (cs := #[_, _, _, _]) hF hS rfl rfl rfl zr25 rfl ?_)
          clear hF hS; intro a w g788 hF hS
          replace hSS := hS.sub [4, 10, 11] (by decide) rfl (by simp)
          refine ⟨.inr hSS, ?_⟩
          refine ha_one 14 (by kernel_rfl) rfl (wn_none rfl) (wp_store (cs' := #[_, _, _, _]) hF hS rfl rfl rfl rfl 0 rfl sz25 (by simp [Value.cells, Value.oneCell']) (by simp [Value.cells]) rfl ?_)
          clear hF hS; intro a w hF hS
          replace hSS := hS.sub [4, 10, 11] (by decide) rfl (by simp)
          refine ⟨.inr hSS, ?_⟩
          refine ha_one 15 (by kernel_rfl) rfl (wn_none rfl) (wp_store (cs' := #[_, _, _, _, _, _, _, _, _, _, _, _]) hF hS rfl rfl rfl rfl 2 rfl sz39 (by simp [Value.cells, Value.oneCell']) (by simp [Value.cells]) rfl ?_)
          clear hF hS; intro a w hF hS
          replace hSS := hS.sub [4, 10, 11] (by decide) rfl (by simp)
          refine ⟨.inr hSS, ?_⟩
          refine ha_y 16 hF rfl rfl rfl (wn_none rfl) (.inr hSS) (yl_assign hF rfl rfl) ?_
          clear hF; intro a hF
          refine ha_done (by kernel_rfl) ?_ _
          refine cut_n ?_
          exact ⟨_, take_gone hL1 hq692.nd hx759 ht787, hF.to [6, 7, 12, 13, 14, 15, 18] rfl, (hS.sub [3, 4, 5, 6, 7, 8, 9, 10, 11, 12] (by decide) (by first | rfl | simp) (by simp))⟩
        · skip
          refine ha_op 12 rfl (wn_none rfl) (wp_alloc (cs := #[_, _, _, _]) hF hS rfl rfl rfl zr25 rfl ?_)
          clear hF hS; intro a w g789 hF hS
          replace hSS := hS.sub [3, 9, 10] (by decide) rfl (by simp)
          refine ⟨.inr hSS, ?_⟩
          refine ha_one 7 (by kernel_rfl) rfl (wn_none rfl) (wp_call (vs := [_, _]) hF rfl rfl rfl rfl cf21 (take_any ((q686.d)) ((q686.h)) ((q686.f)) L708 (x759.f0) _ _ (hS.rdRow 4 rfl) (by first | omega | (simp; done) | (simp; omega))) ?_)
          clear hF; rintro _ w ⟨v790, L791, x792, b793, rfl, ht794, hS1⟩ a hF
          replace hS := hS.callB hS1 rfl; clear hS1
          obtain ⟨Av790, cv790, rfl⟩ := hS.form 0 rfl
          have hlht794 := take_len ht794
          replace hSS := hS.sub [4, 10, 11] (by decide) rfl (by simp)
          refine ⟨.inr hSS, ?_⟩
          refine ha_y 8 hF rfl rfl rfl (wn_none rfl) (.inr hSS) (yl_move hF rfl rfl) ?_
          clear hF; intro a hF
          refine ha_y 9 hF rfl rfl rfl (wn_none rfl) (.inr hSS) (yl_extract hF rfl rfl rfl) ?_
          clear hF; intro a hF
          refine ha_y 10 hF rfl rfl rfl (wn_none rfl) (.inr hSS) (yl_extract hF rfl rfl rfl) ?_
          clear hF; intro a hF
          refine ha_y 11 hF rfl rfl rfl (wn_none rfl) (.inr hSS) (yl_extract hF rfl rfl rfl) ?_
          clear hF; intro a hF
          refine ha_one 14 (by kernel_rfl) rfl (wn_none rfl) (wp_store (cs' := #[_, _, _, _]) hF hS rfl rfl rfl rfl 1 rfl sz25 (by simp [Value.cells, Value.oneCell']) (by simp [Value.cells]) rfl ?_)
          clear hF hS; intro a w hF hS
          replace hSS := hS.sub [4, 10, 11] (by decide) rfl (by simp)
          refine ⟨.inr hSS, ?_⟩
          refine ha_one 15 (by kernel_rfl) rfl (wn_none rfl) (wp_store (cs' := #[_, _, _, _, _, _, _, _, _, _, _, _]) hF hS rfl rfl rfl rfl 2 rfl sz39 (by simp [Value.cells, Value.oneCell']) (by simp [Value.cells]) rfl ?_)
          clear hF hS; intro a w hF hS
          replace hSS := hS.sub [4, 10, 11] (by decide) rfl (by simp)
          refine ⟨.inr hSS, ?_⟩
          refine ha_y 16 hF rfl rfl rfl (wn_none rfl) (.inr hSS) (yl_assign hF rfl rfl) ?_
          clear hF; intro a hF
          refine ha_done (by kernel_rfl) ?_ _
          refine cut_n ?_
          exact ⟨_, take_gone hL1 hq692.nd hx759 ht794, hF.to [6, 7, 12, 13, 14, 15, 18] rfl, (hS.sub [3, 4, 5, 6, 7, 8, 9, 10, 11, 12] (by decide) (by first | rfl | simp) (by simp))⟩
    clear hF hS
    rintro a w ⟨b755, hcut750_0, hF, hS⟩
    have hg2 := hcut750_0
    refine then_n ?_
    refine c_seq ?_
    refine ha_startS hS [0, 7, 8, 1] 35 (by kernel_rfl) ?_; clear hS; intro w hS
    have hSS := hS.sub [0, 7, 8, 1] (by decide) rfl (by simp)
    refine ha_y 0 hF rfl rfl rfl (wn_none rfl) (.inr hSS) (yl_move hF rfl rfl) ?_
    clear hF; intro a hF
    refine ha_y 1 hF rfl rfl rfl (wn_none rfl) (.inr hSS) (yl_move hF rfl rfl) ?_
    clear hF; intro a hF
    replace hF := fr_set (b' := true) hF (hb1)
    refine ha_y 3 hF rfl rfl rfl (wn_t hF rfl rfl rfl rfl) (.inr hSS) (yl_fieldAddr hF rfl rfl (fun w => by kernel_rfl : ∀ w, (Instr.fieldAt 25 (.pointer (some ⟨g697, 0, none⟩)) 3).run Try.prog w = .ok (.pointer (some ⟨g697, 3, none⟩)) w)) ?_
    clear hF; intro a hF
    refine ha_y 5 hF rfl rfl rfl (wn_t hF rfl rfl rfl rfl) (.inr hSS) (yl_move hF rfl rfl) ?_
    clear hF; intro a hF
    refine ha_l 2 hF rfl rfl rfl (wn_t hF rfl rfl rfl rfl) hSS (yl_loadK (rs := [_, _, _, _, _, _, _, _, _, _, _, _]) (fun _ h => h) hF rfl rfl 0 rfl ag39 sz39 rfl rfl) ?_
    clear hF; intro a hF
    refine ha_l 4 hF rfl rfl rfl (wn_t hF rfl rfl rfl rfl) hSS (yl_load (fun _ h => h) hF rfl rfl 1 rfl ag23 rfl) ?_
    clear hF; intro a hF
    have hlt_hx795 : rn704 < (q686.L).length := by first | omega | (simp; done) | (simp; omega)
    obtain ⟨x795, hx795⟩ := get_some hlt_hx795
    refine ha_y 6 hF rfl rfl rfl (wn_t hF rfl rfl rfl rfl) (.inr hSS) (yl_indexAddr hF rfl rfl rfl (fun _ => run_idx' sl23 sz39 (hS.rdRow 8 rfl) hlt_hx795)) ?_
    clear hF; intro a hF
    refine ha_l 7 hF rfl rfl rfl (wn_t hF rfl rfl rfl rfl) hSS (yl_loadEl (rs := [.int .i64 (x795.f0), .int .i64 (x795.f1), .int .i64 (x795.f2), .int .i64 (x795.f3), .string x795.f4, .bool x795.f5, .int .i64 (x795.f6), .int .i64 (x795.f7), .int .i64 (x795.f8), .int .i64 (x795.f9), .bool x795.f10, .int .i64 (x795.f11)]) hF rfl rfl ag39 sz39 rfl (fun _ h => rd_cells (enc := enc39) (Sat.rdRow h 2 rfl) enc39_len hx795)) ?_
    clear hF; intro a hF
    refine ha_y 8 hF rfl rfl rfl (wn_t hF rfl rfl rfl rfl) (.inr hSS) (yl_binA hF rfl rfl rfl (fun w => run_eqGuard_agg w _ _ _ _ _ _ hm39) (fun w => eqs39 _ _ _ _ _ _ _ _ _ _ _ _ _ _ _ _ _ _ _ _ _ _ _ _ w)) ?_
    clear hF; intro a hF
    replace hF := fr_set (b' := true) hF (by rw [decide_eq_true_eq, hy1]; have h9 := Option.some.inj (hx795.symm.trans hx1); rw [h9]; simp)
    refine ha_y 9 hF rfl rfl rfl (wn_none rfl) (.inr hSS) (yl_pick (u := _) (v := undef) hF rfl rfl (fun _ => rfl) (fun h => by cases h)) ?_
    clear hF; intro a hF
    refine ha_y 10 hF rfl rfl rfl (wn_none rfl) (.inr hSS) (yl_move hF rfl rfl) ?_
    clear hF; intro a hF
    refine ha_y 11 hF rfl rfl rfl (wn_t hF rfl rfl rfl rfl) (.inr hSS) (yl_move hF rfl rfl) ?_
    clear hF; intro a hF
    refine ha_y 12 hF rfl rfl rfl (wn_t hF rfl rfl rfl rfl) (.inr hSS) (yl_un hF rfl rfl (fun _ => run_not)) ?_
    clear hF; intro a hF
    replace hF := fr_set (b' := true) hF (by rw [hg2]; rfl)
    refine ha_y 13 hF rfl rfl rfl (wn_none rfl) (.inr hSS) (yl_pick (u := _) (v := undef) hF rfl rfl (fun _ => rfl) (fun h => by cases h)) ?_
    clear hF; intro a hF
    refine ha_y 14 hF rfl rfl rfl (wn_none rfl) (.inr hSS) (yl_move hF rfl rfl) ?_
    clear hF; intro a hF
    refine ha_y 15 hF rfl rfl rfl (wn_t hF rfl rfl rfl rfl) (.inr hSS) (yl_fieldAddr hF rfl rfl (fun w => by kernel_rfl : ∀ w, (Instr.fieldAt 25 (.pointer (some ⟨g712, 0, none⟩)) 3).run Try.prog w = .ok (.pointer (some ⟨g712, 3, none⟩)) w)) ?_
    clear hF; intro a hF
    refine ha_y 18 hF rfl rfl rfl (wn_t hF rfl rfl rfl rfl) (.inr hSS) (yl_fieldAddr hF rfl rfl (fun w => by kernel_rfl : ∀ w, (Instr.fieldAt 25 (.pointer (some ⟨g697, 0, none⟩)) 3).run Try.prog w = .ok (.pointer (some ⟨g697, 3, none⟩)) w)) ?_
    clear hF; intro a hF
    refine ha_l 16 hF rfl rfl rfl (wn_t hF rfl rfl rfl rfl) hSS (yl_load (fun _ h => h) hF rfl rfl 3 rfl ag23 rfl) ?_
    clear hF; intro a hF
    refine ha_y 17 hF rfl rfl rfl (wn_t hF rfl rfl rfl rfl) (.inr hSS) (yl_len hF rfl rfl (fun _ => run_lenRd sl23 (hS.rdRow 2 rfl))) ?_
    clear hF; intro a hF
    refine ha_l 19 hF rfl rfl rfl (wn_t hF rfl rfl rfl rfl) hSS (yl_load (fun _ h => h) hF rfl rfl 1 rfl ag23 rfl) ?_
    clear hF; intro a hF
    refine ha_y 20 hF rfl rfl rfl (wn_t hF rfl rfl rfl rfl) (.inr hSS) (yl_len hF rfl rfl (fun _ => run_lenRd sl23 (hS.rdRow 8 rfl))) ?_
    clear hF; intro a hF
    refine ha_y 21 hF rfl rfl rfl (wn_t hF rfl rfl rfl rfl) (.inr hSS) (yl_bin hF rfl rfl rfl rfl (fun _ => run_sub (by refine ⟨?_, ?_⟩ <;> omega))) ?_
    clear hF; intro a hF
    refine ha_y 22 hF rfl rfl rfl (wn_t hF rfl rfl rfl rfl) (.inr hSS) (yl_bin hF rfl rfl rfl rfl (fun _ => run_eql)) ?_
    clear hF; intro a hF
    replace hF := fr_set (b' := true) hF (by rw [decide_eq_true_eq]; omega)
    refine ha_y 23 hF rfl rfl rfl (wn_none rfl) (.inr hSS) (yl_pick (u := _) (v := undef) hF rfl rfl (fun _ => rfl) (fun h => by cases h)) ?_
    clear hF; intro a hF
    refine ha_y 24 hF rfl rfl rfl (wn_none rfl) (.inr hSS) (yl_move hF rfl rfl) ?_
    clear hF; intro a hF
    refine ha_y 25 hF rfl rfl rfl (wn_t hF rfl rfl rfl rfl) (.inr hSS) (yl_fieldAddr hF rfl rfl (fun w => by kernel_rfl : ∀ w, (Instr.fieldAt 25 (.pointer (some ⟨g712, 0, none⟩)) 2).run Try.prog w = .ok (.pointer (some ⟨g712, 2, none⟩)) w)) ?_
    clear hF; intro a hF
    refine ha_y 27 hF rfl rfl rfl (wn_t hF rfl rfl rfl rfl) (.inr hSS) (yl_fieldAddr hF rfl rfl (fun w => by kernel_rfl : ∀ w, (Instr.fieldAt 25 (.pointer (some ⟨g697, 0, none⟩)) 2).run Try.prog w = .ok (.pointer (some ⟨g697, 2, none⟩)) w)) ?_
    clear hF; intro a hF
    refine ha_l 26 hF rfl rfl rfl (wn_t hF rfl rfl rfl rfl) hSS (yl_load (fun _ h => h) hF rfl rfl 3 rfl ag3 rfl) ?_
    clear hF; intro a hF
    refine ha_l 28 hF rfl rfl rfl (wn_t hF rfl rfl rfl rfl) hSS (yl_load (fun _ h => h) hF rfl rfl 1 rfl ag3 rfl) ?_
    clear hF; intro a hF
    refine ha_y 29 hF rfl rfl rfl (wn_t hF rfl rfl rfl rfl) (.inr hSS) (yl_bin hF rfl rfl rfl rfl (fun _ => run_eql)) ?_
    clear hF; intro a hF
    replace hF := fr_set (b' := true) hF (by simp)
    refine ha_y 30 hF rfl rfl rfl (wn_none rfl) (.inr hSS) (yl_pick (u := _) (v := undef) hF rfl rfl (fun _ => rfl) (fun h => by cases h)) ?_
    clear hF; intro a hF
    refine ha_y 31 hF rfl rfl rfl (wn_none rfl) (.inr hSS) (yl_move hF rfl rfl) ?_
    clear hF; intro a hF
    refine ha_one 32 (by kernel_rfl) rfl (wn_t hF rfl rfl rfl rfl) (wp_call (vs := []) hF rfl rfl rfl rfl cf14 (awake_any _) ?_)
    clear hF; rintro _ w ⟨rfl, hS1⟩ a hF
    replace hS := hS.callB hS1 rfl; clear hS1
    replace hSS := hS.sub [0, 7, 8, 1] (by decide) rfl (by simp)
    refine ⟨.inr hSS, ?_⟩
    refine ha_y 33 hF rfl rfl rfl (wn_none rfl) (.inr hSS) (yl_pick (u := _) (v := undef) hF rfl rfl (fun _ => rfl) (fun h => by cases h)) ?_
    clear hF; intro a hF
    refine ha_y 34 hF rfl rfl rfl (wn_none rfl) (.inr hSS) (yl_assign hF rfl rfl) ?_
    clear hF; intro a hF
    refine ha_done (by kernel_rfl) ?_ _
    refine then_n ?_
    refine wp_ret ?_
    refine ret_t hF rfl rfl ?_
    exact ⟨_, rfl, rfl, (hS.sub [] (by decide) (by first | rfl | simp) (by simp))⟩

end Go.Proofs.Ytjjjmpkmjicpbaa

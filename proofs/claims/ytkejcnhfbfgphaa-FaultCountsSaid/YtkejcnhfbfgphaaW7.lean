/- walks, printed by wip/gen -/
import Derived.Test.YtkejcnhfbfgphaaW4
namespace Go.Proofs.Ytkejcnhfbfgphaa
open Go.RowKit
set_option linter.unusedVariables false
set_option linter.unusedSimpArgs false

set_option maxHeartbeats 4000000 in
set_option maxRecDepth 100000 in
theorem counts_any (n1 n2 : Int) (w0 : World) :
    Fn Try.prog 4 #[.int .i64 n1, .int .i64 n2] w0 (fun v w' => v = .bool true ∧ Sat w0 w' []) := by
  refine c_enter (N := 90) (l := [_, _]) Try.func4 rfl rfl (fun a w hF hS => ?_)
  refine c_seq ?_
  refine c_region ?_
  refine seq_yl hF (wn_none rfl) rfl rfl (yl_assign hF rfl rfl) ?_
  clear hF; intro a hF
  refine wpList_nil ?_
  refine then_n ?_
  refine c_seq ?_
  refine c_region ?_
  refine seq_yl hF (wn_none rfl) rfl rfl (yl_move hF rfl rfl) ?_
  clear hF; intro a hF
  refine seq_wp (wn_none rfl) (wp_call (vs := [_]) hF rfl rfl rfl rfl cf19 (rule_any (n1) _) ?_)
  clear hF; rintro _ w ⟨k305, f306, l307, s308, t309, er310, dn311, hf312, dl313, rfl, hb314, hb315, hb316, hb317, hb318, hb319, hb320, hb321, hS1⟩ a hF
  replace hS := hS.callB hS1 rfl; clear hS1
  refine seq_wp (wn_none rfl) (wp_alloc (cs := #[_, _, _, _, _, _, _, _, _]) hF hS rfl rfl rfl zr37 rfl ?_)
  clear hF hS; intro a w g322 hF hS
  refine seq_wp (wn_none rfl) (wp_store (cs' := #[_, _, _, _, _, _, _, _, _]) hF hS rfl rfl rfl rfl 0 rfl sz37 (by simp [Value.cells, Value.oneCell']) (by simp [Value.cells]) rfl ?_)
  clear hF hS; intro a w hF hS
  refine wpList_nil ?_
  refine then_n ?_
  refine c_seq ?_
  refine c_region ?_
  refine seq_yl hF (wn_none rfl) rfl rfl (yl_fieldAddr hF rfl rfl (fun w => by kernel_rfl : ∀ w, (Instr.fieldAt 37 (.pointer (some ⟨g322, 0, none⟩)) 0).run Try.prog w = .ok (.pointer (some ⟨g322, 0, none⟩)) w)) ?_
  clear hF; intro a hF
  refine seq_wp (wn_none rfl) (wp_store (cs' := #[_, _, _, _, _, _, _, _, _]) hF hS rfl rfl rfl rfl 0 rfl sz3 (by simp [Value.cells, Value.oneCell']) (by simp [Value.cells]) rfl ?_)
  clear hF hS; intro a w hF hS
  refine wpList_nil ?_
  refine then_n ?_
  refine c_seq ?_
  refine c_region ?_
  refine seq_yl hF (wn_none rfl) rfl rfl (yl_fieldAddr hF rfl rfl (fun w => by kernel_rfl : ∀ w, (Instr.fieldAt 37 (.pointer (some ⟨g322, 0, none⟩)) 5).run Try.prog w = .ok (.pointer (some ⟨g322, 5, none⟩)) w)) ?_
  clear hF; intro a hF
  refine seq_yl hF (wn_none rfl) rfl rfl (yl_fieldAddr hF rfl rfl (fun w => by kernel_rfl : ∀ w, (Instr.fieldAt 27 (.pointer (some ⟨g322, 5, none⟩)) 3).run Try.prog w = .ok (.pointer (some ⟨g322, 8, none⟩)) w)) ?_
  clear hF; intro a hF
  refine seq_wp (wn_none rfl) (wp_store (cs' := #[_, _, _, _, _, _, _, _, _]) hF hS rfl rfl rfl rfl 0 rfl sz3 (by simp [Value.cells, Value.oneCell']) (by simp [Value.cells]) rfl ?_)
  clear hF hS; intro a w hF hS
  refine wpList_nil ?_
  refine then_n ?_
  refine c_seq ?_
  refine c_region ?_
  refine seq_yl hF (wn_none rfl) rfl rfl (yl_loadK (rs := [_, _, _, _, _, _, _, _, _]) (fun _ h => h ▸ hS) hF rfl rfl 0 rfl ag37 sz37 rfl rfl) ?_
  clear hF; intro a hF
  refine seq_wp (wn_none rfl) (wp_bslice (parts := [(0, .tmp 17)]) (vs := [(0, _)]) (enc := enc37) (e := 37) (size := 9) (cs := #[.int .i64 (1 : Int), .int .i64 (f306), .int .i64 (l307), .int .i64 (s308), .int .i64 (t309), .int .i64 (er310), .int .i64 (dn311), .bool hf312, .int .i64 (5 : Int)]) hF hS rfl rfl rfl rfl ([(E37.mk (1 : Int) (f306) (l307) (s308) (t309) (er310) (dn311) hf312 (5 : Int))] : List E37) (fun w => by kernel_rfl) rfl rfl rfl (by decide) ?_)
  clear hF hS; intro a w v323 hF hS
  obtain ⟨Av323, cv323, rfl⟩ := hS.form 0 rfl
  refine seq_yl hF (wn_none rfl) rfl rfl (yl_assign hF rfl rfl) ?_
  clear hF; intro a hF
  refine wpList_nil ?_
  refine then_n ?_
  refine c_seq ?_
  refine c_region ?_
  refine seq_yl hF (wn_none rfl) rfl rfl (yl_move hF rfl rfl) ?_
  clear hF; intro a hF
  have hr324 := rnd_bounds (n2) (10 : Int) (by omega)
  refine seq_wp (wn_none rfl) (wp_call (vs := [_, _]) hF rfl rfl rfl rfl cf13 (round_any (n2) (10 : Int) _ (by omega)) ?_)
  clear hF; rintro _ w ⟨rfl, hS1⟩ a hF
  replace hS := hS.callB hS1 rfl; clear hS1
  refine seq_yl hF (wn_none rfl) rfl rfl (yl_assign hF rfl rfl) ?_
  clear hF; intro a hF
  refine wpList_nil ?_
  refine then_n ?_
  refine c_seq ?_
  refine c_seq ?_
  refine c_region ?_
  refine seq_yl hF (wn_none rfl) rfl rfl (yl_assign hF rfl rfl) ?_
  clear hF; intro a hF
  refine wpList_nil ?_
  refine then_n ?_
  refine wp_block ?_
  refine c_loop (fun m a w => ∃ (i : Nat) (sk tm : Int) (AvT : Option Addr) (cvT : Nat), m = (((rnd (n2) (10 : Int))) - i).toNat ∧ ((i : Int) ≤ ((rnd (n2) (10 : Int))) ∧ (0 ≤ sk ∧ sk = max (s308 - i) 0) ∧ ((t309 < 0 ∧ tm = t309) ∨ (0 ≤ t309 ∧ tm = max (t309 - max (i - s308) 0) 0))) ∧ Fr 90 a [(4, .bool false), (5, .pointer (some ⟨g322, 0, none⟩)), (6, .slice AvT ([E37.mk 1 f306 l307 sk tm er310 dn311 hf312 5]).length cvT), (7, .int .i64 ((rnd (n2) (10 : Int)))), (8, .int .i64 ((i : Nat) : Int))] ∧ Sat w0 w (.box g322 37 #[.int .i64 (1 : Int), .int .i64 (f306), .int .i64 (l307), .int .i64 (s308), .int .i64 (t309), .int .i64 (er310), .int .i64 (dn311), .bool hf312, .int .i64 (5 : Int)] :: .row 37 9 (.slice AvT ([E37.mk 1 f306 l307 sk tm er310 dn311 hf312 5]).length cvT) ([E37.mk 1 f306 l307 sk tm er310 dn311 hf312 5]).length (cells enc37 ([E37.mk 1 f306 l307 sk tm er310 dn311 hf312 5])) :: [])) ((((rnd (n2) (10 : Int))) - (0 : Nat)).toNat) ?_ ?_
  · exact ⟨0, s308, t309, Av323, cv323, rfl, ⟨by omega, by omega, by omega⟩, hF.to [4, 5, 6, 7, 8] rfl, (hS.sub [1, 0] (by decide) (by first | rfl | simp) (by simp))⟩
  · clear hF hS; try clear hSS
    clear a w; rintro m a w ⟨i, sk, tm, AvT, cvT, rfl, hinv, hF, hS⟩
    obtain ⟨hik, hsk, htm⟩ := hinv
    refine c_seq ?_
    refine c_seq ?_
    refine c_region ?_
    refine seq_yl hF (wn_none rfl) rfl rfl (yl_move hF rfl rfl) ?_
    clear hF; intro a hF
    refine seq_yl hF (wn_none rfl) rfl rfl (yl_move hF rfl rfl) ?_
    clear hF; intro a hF
    refine seq_yl hF (wn_none rfl) rfl rfl (yl_bin hF rfl rfl rfl rfl (fun _ => run_lss)) ?_
    clear hF; intro a hF
    refine wpList_nil ?_
    refine then_n ?_
    refine c_cond hF rfl (fun hc325 => ?_) (fun hc325 => ?_)
    · first | (replace hc325 := of_decide_eq_true hc325) | (replace hc325 := of_decide_eq_false (bnot_t hc325)) | (subst hc325) | (replace hc325 := bnot_t hc325; subst hc325) | (replace hc325 := bnot_t hc325) | skip
      refine wp_skip ?_
      refine then_n ?_
      refine c_seq ?_
      refine wp_block ?_
      refine c_seq ?_
      refine c_region ?_
      refine seq_yl hF (wn_none rfl) rfl rfl (yl_move hF rfl rfl) ?_
      clear hF; intro a hF
      refine seq_yl hF (wn_none rfl) rfl rfl (yl_fieldAddr hF rfl rfl (fun w => by kernel_rfl : ∀ w, (Instr.fieldAt 37 (.pointer (some ⟨g322, 0, none⟩)) 1).run Try.prog w = .ok (.pointer (some ⟨g322, 1, none⟩)) w)) ?_
      clear hF; intro a hF
      refine seq_yl hF (wn_none rfl) rfl rfl (yl_load (fun _ h => h ▸ hS) hF rfl rfl 0 rfl ag3 rfl) ?_
      clear hF; intro a hF
      refine seq_wp (wn_none rfl) (wp_call (vs := [_, _, _, _]) hF rfl rfl rfl rfl cf12 (step_any _ [E37.mk 1 f306 l307 sk tm er310 dn311 hf312 5] (1 : Int) (f306) (1 : Int) _ (hS.rdRow 1 rfl) (by first | omega | (simp; done) | (simp; omega))) ?_)
      clear hF; rintro _ w ⟨v326, L327, er328, dn329, hf330, dl331, rfl, hp332, hS1⟩ a hF
      replace hS := hS.callB hS1 rfl; clear hS1
      obtain ⟨Av326, cv326, rfl⟩ := hS.form 0 rfl
      have hlhp332 := step_len hp332
      refine seq_yl hF (wn_none rfl) rfl rfl (yl_move hF rfl rfl) ?_
      clear hF; intro a hF
      obtain ⟨sk1, tm1, hL1, hcs⟩ := one_step (by unfold validR; dsimp only; omega) hp332
      have hoz : ∀ {e d dl : Int} {hf : Bool}, (⟨e, d, hf, dl⟩ : Oc) = zeroO → e = 0 ∧ d = 0 ∧ hf = false ∧ dl = 0 := fun h => by injection h with h1 h2 h3 h4; exact ⟨h1, h2, h3, h4⟩
      have hor : ∀ {e d dl e2 d2 dl2 : Int} {hf hf2 : Bool}, (⟨e, d, hf, dl⟩ : Oc) = ⟨e2, d2, hf2, dl2⟩ → e = e2 ∧ d = d2 ∧ hf = hf2 ∧ dl = dl2 := fun h => by injection h with h1 h2 h3 h4; exact ⟨h1, h2, h3, h4⟩
      have hcc : ((decide (er328 = er310 ∧ dn329 = dn311 ∧ hf330 = hf312 ∧ dl331 = (5 : Int))) = true ∧ (sk = 0 ∧ tm ≠ 0 ∧ sk1 = 0 ∧ ((0 < tm ∧ tm1 = tm - 1) ∨ (tm < 0 ∧ tm1 = tm)))) ∨ ((decide (er328 = er310 ∧ dn329 = dn311 ∧ hf330 = hf312 ∧ dl331 = (5 : Int))) = false ∧ ((0 < sk ∧ sk1 = sk - 1 ∧ tm1 = tm) ∨ (sk = 0 ∧ tm = 0 ∧ sk1 = 0 ∧ tm1 = 0)) ∧ er328 = 0 ∧ dn329 = 0 ∧ hf330 = false ∧ dl331 = 0) := by
        rcases hcs with ⟨h1, h2, h3, h4⟩ | ⟨h1, h2, h3, h5, h4⟩ | ⟨h1, h2, h3, h5, h4⟩ | ⟨h1, h2, h3, h5, h4⟩
        · obtain ⟨e1, e2, e3, e4⟩ := hoz h4; exact .inr ⟨decide_eq_false (by rintro ⟨_, _, _, h⟩; omega), .inl ⟨h1, h2, h3⟩, e1, e2, e3, e4⟩
        · obtain ⟨e1, e2, e3, e4⟩ := hoz h4; exact .inr ⟨decide_eq_false (by rintro ⟨_, _, _, h⟩; omega), .inr ⟨h1, h2, h3, h5⟩, e1, e2, e3, e4⟩
        · exact .inl ⟨decide_eq_true (hor h4), h1, by omega, h3, .inl ⟨h2, h5⟩⟩
        · exact .inl ⟨decide_eq_true (hor h4), h1, by omega, h3, .inr ⟨h2, h5⟩⟩
      clear hcs hoz hor
      refine seq_yl hF (wn_none rfl) rfl rfl (yl_extract hF rfl rfl rfl) ?_
      clear hF; intro a hF
      refine seq_yl hF (wn_none rfl) rfl rfl (yl_extract hF rfl rfl rfl) ?_
      clear hF; intro a hF
      refine seq_wp (wn_none rfl) (wp_alloc (cs := #[_, _, _, _]) hF hS rfl rfl rfl zr27 rfl ?_)
      clear hF hS; intro a w g333 hF hS
      refine seq_yl hF (wn_none rfl) rfl rfl (yl_assign hF rfl rfl) ?_
      clear hF; intro a hF
      refine seq_wp (wn_none rfl) (wp_store (cs' := #[_, _, _, _]) hF hS rfl rfl rfl rfl 0 rfl sz27 (by simp [Value.cells, Value.oneCell']) (by simp [Value.cells]) rfl ?_)
      clear hF hS; intro a w hF hS
      refine wpList_nil ?_
      refine then_n ?_
      refine c_seq ?_
      refine c_region ?_
      refine seq_yl hF (wn_none rfl) rfl rfl (yl_move hF rfl rfl) ?_
      clear hF; intro a hF
      refine seq_yl hF (wn_none rfl) rfl rfl (yl_fieldAddr hF rfl rfl (fun w => by kernel_rfl : ∀ w, (Instr.fieldAt 37 (.pointer (some ⟨g322, 0, none⟩)) 3).run Try.prog w = .ok (.pointer (some ⟨g322, 3, none⟩)) w)) ?_
      clear hF; intro a hF
      refine seq_yl hF (wn_none rfl) rfl rfl (yl_load (fun _ h => h ▸ hS) hF rfl rfl 2 rfl ag3 rfl) ?_
      clear hF; intro a hF
      refine seq_yl hF (wn_none rfl) rfl rfl (yl_bin hF rfl rfl rfl rfl (fun _ => run_geq)) ?_
      clear hF; intro a hF
      refine seq_yl hF (wn_none rfl) rfl rfl (yl_move hF rfl rfl) ?_
      clear hF; intro a hF
      refine fr_split hF (fun hc334 hF => ?_) (fun hc334 hF => ?_)
      · first | (replace hc334 := of_decide_eq_true hc334) | (replace hc334 := of_decide_eq_false (bnot_t hc334)) | (subst hc334) | (replace hc334 := bnot_t hc334; subst hc334) | (replace hc334 := bnot_t hc334) | skip
        refine seq_yl hF (wn_t hF rfl rfl rfl rfl) rfl rfl (yl_fieldAddr hF rfl rfl (fun w => by kernel_rfl : ∀ w, (Instr.fieldAt 37 (.pointer (some ⟨g322, 0, none⟩)) 4).run Try.prog w = .ok (.pointer (some ⟨g322, 4, none⟩)) w)) ?_
        clear hF; intro a hF
        refine seq_yl hF (wn_t hF rfl rfl rfl rfl) rfl rfl (yl_load (fun _ h => h ▸ hS) hF rfl rfl 2 rfl ag3 rfl) ?_
        clear hF; intro a hF
        refine seq_yl hF (wn_t hF rfl rfl rfl rfl) rfl rfl (yl_bin hF rfl rfl rfl rfl (fun _ => run_lss)) ?_
        clear hF; intro a hF
        refine seq_yl hF (wn_t hF rfl rfl rfl rfl) rfl rfl (yl_move hF rfl rfl) ?_
        clear hF; intro a hF
        refine fr_split hF (fun hc335 hF => ?_) (fun hc335 hF => ?_)
        · first | (replace hc335 := of_decide_eq_true hc335) | (replace hc335 := of_decide_eq_false (bnot_t hc335)) | (subst hc335) | (replace hc335 := bnot_t hc335; subst hc335) | (replace hc335 := bnot_t hc335) | skip
          refine seq_skip hF (wn_f hF rfl rfl rfl rfl) rfl rfl ?_
          clear hF; intro a hF
          refine seq_skip hF (wn_f hF rfl rfl rfl rfl) rfl rfl ?_
          clear hF; intro a hF
          refine seq_skip hF (wn_f hF rfl rfl rfl rfl) rfl rfl ?_
          clear hF; intro a hF
          refine seq_skip hF (wn_f hF rfl rfl rfl rfl) rfl rfl ?_
          clear hF; intro a hF
          refine seq_skip hF (wn_f hF rfl rfl rfl rfl) rfl rfl ?_
          clear hF; intro a hF
          refine seq_skip hF (wn_f hF rfl rfl rfl rfl) rfl rfl ?_
          clear hF; intro a hF
          refine seq_skip hF (wn_f hF rfl rfl rfl rfl) rfl rfl ?_
          clear hF; intro a hF
          refine seq_yl hF (wn_t hF rfl rfl rfl rfl) rfl rfl (yl_pick (u := _) (v := undef) hF rfl rfl (fun _ => rfl) (fun h => by cases h)) ?_
          clear hF; intro a hF
          refine seq_yl hF (wn_none rfl) rfl rfl (yl_pick (u := _) (v := undef) hF rfl rfl (fun _ => rfl) (fun h => by cases h)) ?_
          clear hF; intro a hF
          refine seq_yl hF (wn_none rfl) rfl rfl (yl_assign hF rfl rfl) ?_
          clear hF; intro a hF
          refine wpList_nil ?_
          refine then_n ?_
          refine c_seq ?_
          refine c_seq ?_
          refine c_region ?_
          refine seq_yl hF (wn_none rfl) rfl rfl (yl_loadK (rs := [_, _, _, _]) (fun _ h => h ▸ hS) hF rfl rfl 0 rfl ag27 sz27 rfl rfl) ?_
          clear hF; intro a hF
          refine seq_yl hF (wn_none rfl) rfl rfl (yl_fieldAddr hF rfl rfl (fun w => by kernel_rfl : ∀ w, (Instr.fieldAt 37 (.pointer (some ⟨g322, 0, none⟩)) 5).run Try.prog w = .ok (.pointer (some ⟨g322, 5, none⟩)) w)) ?_
          clear hF; intro a hF
          refine seq_yl hF (wn_none rfl) rfl rfl (yl_loadK (rs := [_, _, _, _]) (fun _ h => h ▸ hS) hF rfl rfl 2 rfl ag27 sz27 rfl rfl) ?_
          clear hF; intro a hF
          refine seq_yl hF (wn_none rfl) rfl rfl (yl_binA hF rfl rfl rfl (fun w => run_eqGuard_agg w _ _ _ _ _ _ hm27) (fun w => eqs27 _ _ _ _ _ _ _ _ w)) ?_
          clear hF; intro a hF
          rcases hcc with ⟨hq, hcc⟩ | ⟨hq, hcc, hz1, hz2, hz3, hz4⟩
          · skip
            replace hF := fr_set (b' := true) hF (by assumption)
            refine seq_yl hF (wn_none rfl) rfl rfl (yl_move hF rfl rfl) ?_
            clear hF; intro a hF
            refine seq_yl hF (wn_none rfl) rfl rfl (yl_bin hF rfl rfl rfl rfl (fun _ => run_neb Try.underlying4)) ?_
            clear hF; intro a hF
            replace hF := fr_set (b' := false) hF (by first | rfl | (exfalso; omega))
            refine seq_yl hF (wn_none rfl) rfl rfl (yl_move hF rfl rfl) ?_
            clear hF; intro a hF
            refine seq_yl hF (wn_t hF rfl rfl rfl rfl) rfl rfl (yl_move hF rfl rfl) ?_
            clear hF; intro a hF
            refine seq_yl hF (wn_t hF rfl rfl rfl rfl) rfl rfl (yl_un hF rfl rfl (fun _ => run_not)) ?_
            clear hF; intro a hF
            refine seq_yl hF (wn_t hF rfl rfl rfl rfl) rfl rfl (yl_move hF rfl rfl) ?_
            clear hF; intro a hF
            refine seq_skip hF (wn_f hF rfl rfl rfl rfl) rfl rfl ?_
            clear hF; intro a hF
            refine seq_skip hF (wn_f hF rfl rfl rfl rfl) rfl rfl ?_
            clear hF; intro a hF
            refine seq_skip hF (wn_f hF rfl rfl rfl rfl) rfl rfl ?_
            clear hF; intro a hF
            refine seq_yl hF (wn_t hF rfl rfl rfl rfl) rfl rfl (yl_pick (u := _) (v := undef) hF rfl rfl (fun h => by cases h) (fun _ => rfl)) ?_
            clear hF; intro a hF
            refine seq_yl hF (wn_none rfl) rfl rfl (yl_pick (u := _) (v := undef) hF rfl rfl (fun h => by cases h) (fun _ => rfl)) ?_
            clear hF; intro a hF
            refine wpList_nil ?_
            refine then_n ?_
            refine c_cond_f hF rfl ?_
            refine wp_skip ?_
            refine then_n ?_
            refine c_region ?_
            refine seq_yl hF (wn_none rfl) rfl rfl (yl_move hF rfl rfl) ?_
            clear hF; intro a hF
            refine seq_yl hF (wn_none rfl) rfl rfl (yl_assign hF rfl rfl) ?_
            clear hF; intro a hF
            refine wpList_nil ?_
            refine inb_n ?_
            refine then_n ?_
            refine c_region ?_
            refine seq_yl hF (wn_none rfl) rfl rfl (yl_move hF rfl rfl) ?_
            clear hF; intro a hF
            refine seq_yl hF (wn_none rfl) rfl rfl (yl_bin hF rfl rfl rfl rfl (fun _ => run_inc (by omega))) ?_
            clear hF; intro a hF
            refine seq_yl hF (wn_none rfl) rfl rfl (yl_assign hF rfl rfl) ?_
            clear hF; intro a hF
            refine wpList_nil ?_
            refine then_n ?_
            rw [hL1] at hS hF
            exact ⟨_, (by omega), i + 1, sk1, tm1, Av326, cv326, rfl, ⟨by omega, by omega, by omega⟩, hF.to [4, 5, 6, 7, 8] rfl, (hS.sub [2, 1] (by decide) (by first | rfl | simp) (by simp))⟩
          · skip
            replace hF := fr_set (b' := false) hF (by assumption)
            refine seq_yl hF (wn_none rfl) rfl rfl (yl_move hF rfl rfl) ?_
            clear hF; intro a hF
            refine seq_yl hF (wn_none rfl) rfl rfl (yl_bin hF rfl rfl rfl rfl (fun _ => run_neb Try.underlying4)) ?_
            clear hF; intro a hF
            replace hF := fr_set (b' := false) hF (by first | rfl | (exfalso; omega))
            refine seq_yl hF (wn_none rfl) rfl rfl (yl_move hF rfl rfl) ?_
            clear hF; intro a hF
            refine seq_yl hF (wn_t hF rfl rfl rfl rfl) rfl rfl (yl_move hF rfl rfl) ?_
            clear hF; intro a hF
            refine seq_yl hF (wn_t hF rfl rfl rfl rfl) rfl rfl (yl_un hF rfl rfl (fun _ => run_not)) ?_
            clear hF; intro a hF
            refine seq_yl hF (wn_t hF rfl rfl rfl rfl) rfl rfl (yl_move hF rfl rfl) ?_
            clear hF; intro a hF
            refine seq_skip hF (wn_f hF rfl rfl rfl rfl) rfl rfl ?_
            clear hF; intro a hF
            refine seq_skip hF (wn_f hF rfl rfl rfl rfl) rfl rfl ?_
            clear hF; intro a hF
            refine seq_skip hF (wn_f hF rfl rfl rfl rfl) rfl rfl ?_
            clear hF; intro a hF
            refine seq_yl hF (wn_t hF rfl rfl rfl rfl) rfl rfl (yl_pick (u := _) (v := undef) hF rfl rfl (fun h => by cases h) (fun _ => rfl)) ?_
            clear hF; intro a hF
            refine seq_yl hF (wn_none rfl) rfl rfl (yl_pick (u := _) (v := undef) hF rfl rfl (fun h => by cases h) (fun _ => rfl)) ?_
            clear hF; intro a hF
            refine wpList_nil ?_
            refine then_n ?_
            refine c_cond_f hF rfl ?_
            refine wp_skip ?_
            refine then_n ?_
            refine c_region ?_
            refine seq_yl hF (wn_none rfl) rfl rfl (yl_move hF rfl rfl) ?_
            clear hF; intro a hF
            refine seq_yl hF (wn_none rfl) rfl rfl (yl_assign hF rfl rfl) ?_
            clear hF; intro a hF
            refine wpList_nil ?_
            refine inb_n ?_
            refine then_n ?_
            refine c_region ?_
            refine seq_yl hF (wn_none rfl) rfl rfl (yl_move hF rfl rfl) ?_
            clear hF; intro a hF
            refine seq_yl hF (wn_none rfl) rfl rfl (yl_bin hF rfl rfl rfl rfl (fun _ => run_inc (by omega))) ?_
            clear hF; intro a hF
            refine seq_yl hF (wn_none rfl) rfl rfl (yl_assign hF rfl rfl) ?_
            clear hF; intro a hF
            refine wpList_nil ?_
            refine then_n ?_
            rw [hL1] at hS hF
            exact ⟨_, (by omega), i + 1, sk1, tm1, Av326, cv326, rfl, ⟨by omega, by omega, by omega⟩, hF.to [4, 5, 6, 7, 8] rfl, (hS.sub [2, 1] (by decide) (by first | rfl | simp) (by simp))⟩
        · first | (replace hc335 := of_decide_eq_false hc335) | (replace hc335 := of_decide_eq_true (bnot_f hc335)) | (subst hc335) | (replace hc335 := bnot_f hc335; subst hc335) | (replace hc335 := bnot_f hc335) | skip
          refine seq_yl hF (wn_t hF rfl rfl rfl rfl) rfl rfl (yl_move hF rfl rfl) ?_
          clear hF; intro a hF
          refine seq_yl hF (wn_t hF rfl rfl rfl rfl) rfl rfl (yl_fieldAddr hF rfl rfl (fun w => by kernel_rfl : ∀ w, (Instr.fieldAt 37 (.pointer (some ⟨g322, 0, none⟩)) 3).run Try.prog w = .ok (.pointer (some ⟨g322, 3, none⟩)) w)) ?_
          clear hF; intro a hF
          refine seq_yl hF (wn_t hF rfl rfl rfl rfl) rfl rfl (yl_load (fun _ h => h ▸ hS) hF rfl rfl 2 rfl ag3 rfl) ?_
          clear hF; intro a hF
          refine seq_yl hF (wn_t hF rfl rfl rfl rfl) rfl rfl (yl_fieldAddr hF rfl rfl (fun w => by kernel_rfl : ∀ w, (Instr.fieldAt 37 (.pointer (some ⟨g322, 0, none⟩)) 4).run Try.prog w = .ok (.pointer (some ⟨g322, 4, none⟩)) w)) ?_
          clear hF; intro a hF
          refine seq_yl hF (wn_t hF rfl rfl rfl rfl) rfl rfl (yl_load (fun _ h => h ▸ hS) hF rfl rfl 2 rfl ag3 rfl) ?_
          clear hF; intro a hF
          refine seq_yl hF (wn_t hF rfl rfl rfl rfl) rfl rfl (yl_bin hF rfl rfl rfl rfl (fun _ => run_add (by refine ⟨?_, ?_⟩ <;> omega))) ?_
          clear hF; intro a hF
          refine seq_yl hF (wn_t hF rfl rfl rfl rfl) rfl rfl (yl_bin hF rfl rfl rfl rfl (fun _ => run_lss)) ?_
          clear hF; intro a hF
          refine seq_yl hF (wn_t hF rfl rfl rfl rfl) rfl rfl (yl_pick (u := _) (v := undef) hF rfl rfl (fun h => by cases h) (fun _ => rfl)) ?_
          clear hF; intro a hF
          refine seq_yl hF (wn_none rfl) rfl rfl (yl_pick (u := _) (v := undef) hF rfl rfl (fun _ => rfl) (fun h => by cases h)) ?_
          clear hF; intro a hF
          refine seq_yl hF (wn_none rfl) rfl rfl (yl_assign hF rfl rfl) ?_
          clear hF; intro a hF
          refine wpList_nil ?_
          refine then_n ?_
          refine c_seq ?_
          refine c_seq ?_
          refine c_region ?_
          refine seq_yl hF (wn_none rfl) rfl rfl (yl_loadK (rs := [_, _, _, _]) (fun _ h => h ▸ hS) hF rfl rfl 0 rfl ag27 sz27 rfl rfl) ?_
          clear hF; intro a hF
          refine seq_yl hF (wn_none rfl) rfl rfl (yl_fieldAddr hF rfl rfl (fun w => by kernel_rfl : ∀ w, (Instr.fieldAt 37 (.pointer (some ⟨g322, 0, none⟩)) 5).run Try.prog w = .ok (.pointer (some ⟨g322, 5, none⟩)) w)) ?_
          clear hF; intro a hF
          refine seq_yl hF (wn_none rfl) rfl rfl (yl_loadK (rs := [_, _, _, _]) (fun _ h => h ▸ hS) hF rfl rfl 2 rfl ag27 sz27 rfl rfl) ?_
          clear hF; intro a hF
          refine seq_yl hF (wn_none rfl) rfl rfl (yl_binA hF rfl rfl rfl (fun w => run_eqGuard_agg w _ _ _ _ _ _ hm27) (fun w => eqs27 _ _ _ _ _ _ _ _ w)) ?_
          clear hF; intro a hF
          rcases hcc with ⟨hq, hcc⟩ | ⟨hq, hcc, hz1, hz2, hz3, hz4⟩
          · skip
            replace hF := fr_set (b' := true) hF (by assumption)
            refine seq_yl hF (wn_none rfl) rfl rfl (yl_move hF rfl rfl) ?_
            clear hF; intro a hF
            refine seq_yl hF (wn_none rfl) rfl rfl (yl_bin hF rfl rfl rfl rfl (fun _ => run_neb Try.underlying4)) ?_
            clear hF; intro a hF
            replace hF := fr_set (b' := false) hF (by have hb9 : (decide (((i : Nat) : Int) < (((s308) + (t309))))) = true := decide_eq_true (by omega); rw [hb9]; rfl)
            refine seq_yl hF (wn_none rfl) rfl rfl (yl_move hF rfl rfl) ?_
            clear hF; intro a hF
            refine seq_yl hF (wn_t hF rfl rfl rfl rfl) rfl rfl (yl_move hF rfl rfl) ?_
            clear hF; intro a hF
            refine seq_yl hF (wn_t hF rfl rfl rfl rfl) rfl rfl (yl_un hF rfl rfl (fun _ => run_not)) ?_
            clear hF; intro a hF
            refine seq_yl hF (wn_t hF rfl rfl rfl rfl) rfl rfl (yl_move hF rfl rfl) ?_
            clear hF; intro a hF
            refine fr_split hF (fun hc336 hF => ?_) (fun hc336 hF => ?_)
            · first | (replace hc336 := of_decide_eq_true hc336) | (replace hc336 := of_decide_eq_false (bnot_t hc336)) | (subst hc336) | (replace hc336 := bnot_t hc336; subst hc336) | (replace hc336 := bnot_t hc336) | skip
              refine seq_yl hF (wn_t hF rfl rfl rfl rfl) rfl rfl (yl_loadK (rs := [_, _, _, _]) (fun _ h => h ▸ hS) hF rfl rfl 0 rfl ag27 sz27 rfl rfl) ?_
              clear hF; intro a hF
              refine seq_yl hF (wn_t hF rfl rfl rfl rfl) rfl rfl (yl_build (parts := []) (vs := []) (cs := [_, _, _, _]) hF bd27 rfl rfl rfl rfl) ?_
              clear hF; intro a hF
              refine seq_yl hF (wn_t hF rfl rfl rfl rfl) rfl rfl (yl_binA hF rfl rfl rfl (fun w => run_eqGuard_agg w _ _ _ _ _ _ hm27) (fun w => nes27 _ _ _ _ _ _ _ _ w)) ?_
              clear hF; intro a hF
              replace hF := fr_set (b' := false) hF ((by exfalso; first | omega | simp_all))
              refine seq_yl hF (wn_t hF rfl rfl rfl rfl) rfl rfl (yl_pick (u := _) (v := undef) hF rfl rfl (fun _ => rfl) (fun h => by cases h)) ?_
              clear hF; intro a hF
              refine seq_yl hF (wn_none rfl) rfl rfl (yl_pick (u := _) (v := undef) hF rfl rfl (fun h => by cases h) (fun _ => rfl)) ?_
              clear hF; intro a hF
              refine wpList_nil ?_
              refine then_n ?_
              refine c_cond_f hF rfl ?_
              refine wp_skip ?_
              refine then_n ?_
              refine c_region ?_
              refine seq_yl hF (wn_none rfl) rfl rfl (yl_move hF rfl rfl) ?_
              clear hF; intro a hF
              refine seq_yl hF (wn_none rfl) rfl rfl (yl_assign hF rfl rfl) ?_
              clear hF; intro a hF
              refine wpList_nil ?_
              refine inb_n ?_
              refine then_n ?_
              refine c_region ?_
              refine seq_yl hF (wn_none rfl) rfl rfl (yl_move hF rfl rfl) ?_
              clear hF; intro a hF
              refine seq_yl hF (wn_none rfl) rfl rfl (yl_bin hF rfl rfl rfl rfl (fun _ => run_inc (by omega))) ?_
              clear hF; intro a hF
              refine seq_yl hF (wn_none rfl) rfl rfl (yl_assign hF rfl rfl) ?_
              clear hF; intro a hF
              refine wpList_nil ?_
              refine then_n ?_
              rw [hL1] at hS hF
              exact ⟨_, (by omega), i + 1, sk1, tm1, Av326, cv326, rfl, ⟨by omega, by omega, by omega⟩, hF.to [4, 5, 6, 7, 8] rfl, (hS.sub [2, 1] (by decide) (by first | rfl | simp) (by simp))⟩
            · first | (replace hc336 := of_decide_eq_false hc336) | (replace hc336 := of_decide_eq_true (bnot_f hc336)) | (subst hc336) | (replace hc336 := bnot_f hc336; subst hc336) | (replace hc336 := bnot_f hc336) | skip
              refine seq_skip hF (wn_f hF rfl rfl rfl rfl) rfl rfl ?_
              clear hF; intro a hF
              refine seq_skip hF (wn_f hF rfl rfl rfl rfl) rfl rfl ?_
              clear hF; intro a hF
              refine seq_skip hF (wn_f hF rfl rfl rfl rfl) rfl rfl ?_
              clear hF; intro a hF
              refine seq_yl hF (wn_t hF rfl rfl rfl rfl) rfl rfl (yl_pick (u := _) (v := undef) hF rfl rfl (fun h => by cases h) (fun _ => rfl)) ?_
              clear hF; intro a hF
              refine seq_yl hF (wn_none rfl) rfl rfl (yl_pick (u := _) (v := undef) hF rfl rfl (fun h => by cases h) (fun _ => rfl)) ?_
              clear hF; intro a hF
              refine wpList_nil ?_
              refine then_n ?_
              refine c_cond_f hF rfl ?_
              refine wp_skip ?_
              refine then_n ?_
              refine c_region ?_
              refine seq_yl hF (wn_none rfl) rfl rfl (yl_move hF rfl rfl) ?_
              clear hF; intro a hF
              refine seq_yl hF (wn_none rfl) rfl rfl (yl_assign hF rfl rfl) ?_
              clear hF; intro a hF
              refine wpList_nil ?_
              refine inb_n ?_
              refine then_n ?_
              refine c_region ?_
              refine seq_yl hF (wn_none rfl) rfl rfl (yl_move hF rfl rfl) ?_
              clear hF; intro a hF
              refine seq_yl hF (wn_none rfl) rfl rfl (yl_bin hF rfl rfl rfl rfl (fun _ => run_inc (by omega))) ?_
              clear hF; intro a hF
              refine seq_yl hF (wn_none rfl) rfl rfl (yl_assign hF rfl rfl) ?_
              clear hF; intro a hF
              refine wpList_nil ?_
              refine then_n ?_
              rw [hL1] at hS hF
              exact ⟨_, (by omega), i + 1, sk1, tm1, Av326, cv326, rfl, ⟨by omega, by omega, by omega⟩, hF.to [4, 5, 6, 7, 8] rfl, (hS.sub [2, 1] (by decide) (by first | rfl | simp) (by simp))⟩
          · skip
            replace hF := fr_set (b' := false) hF (by assumption)
            refine seq_yl hF (wn_none rfl) rfl rfl (yl_move hF rfl rfl) ?_
            clear hF; intro a hF
            refine seq_yl hF (wn_none rfl) rfl rfl (yl_bin hF rfl rfl rfl rfl (fun _ => run_neb Try.underlying4)) ?_
            clear hF; intro a hF
            replace hF := fr_set (b' := false) hF (by have hb9 : (decide (((i : Nat) : Int) < (((s308) + (t309))))) = false := decide_eq_false (by omega); rw [hb9]; rfl)
            refine seq_yl hF (wn_none rfl) rfl rfl (yl_move hF rfl rfl) ?_
            clear hF; intro a hF
            refine seq_yl hF (wn_t hF rfl rfl rfl rfl) rfl rfl (yl_move hF rfl rfl) ?_
            clear hF; intro a hF
            refine seq_yl hF (wn_t hF rfl rfl rfl rfl) rfl rfl (yl_un hF rfl rfl (fun _ => run_not)) ?_
            clear hF; intro a hF
            refine seq_yl hF (wn_t hF rfl rfl rfl rfl) rfl rfl (yl_move hF rfl rfl) ?_
            clear hF; intro a hF
            refine fr_split hF (fun hc337 hF => ?_) (fun hc337 hF => ?_)
            · first | (replace hc337 := of_decide_eq_true hc337) | (replace hc337 := of_decide_eq_false (bnot_t hc337)) | (subst hc337) | (replace hc337 := bnot_t hc337; subst hc337) | (replace hc337 := bnot_t hc337) | skip
              refine seq_yl hF (wn_t hF rfl rfl rfl rfl) rfl rfl (yl_loadK (rs := [_, _, _, _]) (fun _ h => h ▸ hS) hF rfl rfl 0 rfl ag27 sz27 rfl rfl) ?_
              clear hF; intro a hF
              refine seq_yl hF (wn_t hF rfl rfl rfl rfl) rfl rfl (yl_build (parts := []) (vs := []) (cs := [_, _, _, _]) hF bd27 rfl rfl rfl rfl) ?_
              clear hF; intro a hF
              refine seq_yl hF (wn_t hF rfl rfl rfl rfl) rfl rfl (yl_binA hF rfl rfl rfl (fun w => run_eqGuard_agg w _ _ _ _ _ _ hm27) (fun w => nes27 _ _ _ _ _ _ _ _ w)) ?_
              clear hF; intro a hF
              replace hF := fr_set (b' := false) hF (by rw [decide_eq_false_iff_not]; exact not_not_intro ⟨hz1, hz2, hz3, hz4⟩)
              refine seq_yl hF (wn_t hF rfl rfl rfl rfl) rfl rfl (yl_pick (u := _) (v := undef) hF rfl rfl (fun _ => rfl) (fun h => by cases h)) ?_
              clear hF; intro a hF
              refine seq_yl hF (wn_none rfl) rfl rfl (yl_pick (u := _) (v := undef) hF rfl rfl (fun h => by cases h) (fun _ => rfl)) ?_
              clear hF; intro a hF
              refine wpList_nil ?_
              refine then_n ?_
              refine c_cond_f hF rfl ?_
              refine wp_skip ?_
              refine then_n ?_
              refine c_region ?_
              refine seq_yl hF (wn_none rfl) rfl rfl (yl_move hF rfl rfl) ?_
              clear hF; intro a hF
              refine seq_yl hF (wn_none rfl) rfl rfl (yl_assign hF rfl rfl) ?_
              clear hF; intro a hF
              refine wpList_nil ?_
              refine inb_n ?_
              refine then_n ?_
              refine c_region ?_
              refine seq_yl hF (wn_none rfl) rfl rfl (yl_move hF rfl rfl) ?_
              clear hF; intro a hF
              refine seq_yl hF (wn_none rfl) rfl rfl (yl_bin hF rfl rfl rfl rfl (fun _ => run_inc (by omega))) ?_
              clear hF; intro a hF
              refine seq_yl hF (wn_none rfl) rfl rfl (yl_assign hF rfl rfl) ?_
              clear hF; intro a hF
              refine wpList_nil ?_
              refine then_n ?_
              rw [hL1] at hS hF
              exact ⟨_, (by omega), i + 1, sk1, tm1, Av326, cv326, rfl, ⟨by omega, by omega, by omega⟩, hF.to [4, 5, 6, 7, 8] rfl, (hS.sub [2, 1] (by decide) (by first | rfl | simp) (by simp))⟩
            · first | (replace hc337 := of_decide_eq_false hc337) | (replace hc337 := of_decide_eq_true (bnot_f hc337)) | (subst hc337) | (replace hc337 := bnot_f hc337; subst hc337) | (replace hc337 := bnot_f hc337) | skip
              refine seq_skip hF (wn_f hF rfl rfl rfl rfl) rfl rfl ?_
              clear hF; intro a hF
              refine seq_skip hF (wn_f hF rfl rfl rfl rfl) rfl rfl ?_
              clear hF; intro a hF
              refine seq_skip hF (wn_f hF rfl rfl rfl rfl) rfl rfl ?_
              clear hF; intro a hF
              refine seq_yl hF (wn_t hF rfl rfl rfl rfl) rfl rfl (yl_pick (u := _) (v := undef) hF rfl rfl (fun h => by cases h) (fun _ => rfl)) ?_
              clear hF; intro a hF
              refine seq_yl hF (wn_none rfl) rfl rfl (yl_pick (u := _) (v := undef) hF rfl rfl (fun h => by cases h) (fun _ => rfl)) ?_
              clear hF; intro a hF
              refine wpList_nil ?_
              refine then_n ?_
              refine c_cond_f hF rfl ?_
              refine wp_skip ?_
              refine then_n ?_
              refine c_region ?_
              refine seq_yl hF (wn_none rfl) rfl rfl (yl_move hF rfl rfl) ?_
              clear hF; intro a hF
              refine seq_yl hF (wn_none rfl) rfl rfl (yl_assign hF rfl rfl) ?_
              clear hF; intro a hF
              refine wpList_nil ?_
              refine inb_n ?_
              refine then_n ?_
              refine c_region ?_
              refine seq_yl hF (wn_none rfl) rfl rfl (yl_move hF rfl rfl) ?_
              clear hF; intro a hF
              refine seq_yl hF (wn_none rfl) rfl rfl (yl_bin hF rfl rfl rfl rfl (fun _ => run_inc (by omega))) ?_
              clear hF; intro a hF
              refine seq_yl hF (wn_none rfl) rfl rfl (yl_assign hF rfl rfl) ?_
              clear hF; intro a hF
              refine wpList_nil ?_
              refine then_n ?_
              rw [hL1] at hS hF
              exact ⟨_, (by omega), i + 1, sk1, tm1, Av326, cv326, rfl, ⟨by omega, by omega, by omega⟩, hF.to [4, 5, 6, 7, 8] rfl, (hS.sub [2, 1] (by decide) (by first | rfl | simp) (by simp))⟩
      · first | (replace hc334 := of_decide_eq_false hc334) | (replace hc334 := of_decide_eq_true (bnot_f hc334)) | (subst hc334) | (replace hc334 := bnot_f hc334; subst hc334) | (replace hc334 := bnot_f hc334) | skip
        refine seq_skip hF (wn_f hF rfl rfl rfl rfl) rfl rfl ?_
        clear hF; intro a hF
        refine seq_skip hF (wn_f hF rfl rfl rfl rfl) rfl rfl ?_
        clear hF; intro a hF
        refine seq_skip hF (wn_f hF rfl rfl rfl rfl) rfl rfl ?_
        clear hF; intro a hF
        refine seq_skip hF (wn_f hF rfl rfl rfl rfl) rfl rfl ?_
        clear hF; intro a hF
        refine seq_skip hF (wn_u hF rfl rfl rfl rfl) rfl rfl ?_
        clear hF; intro a hF
        refine seq_skip hF (wn_u hF rfl rfl rfl rfl) rfl rfl ?_
        clear hF; intro a hF
        refine seq_skip hF (wn_u hF rfl rfl rfl rfl) rfl rfl ?_
        clear hF; intro a hF
        refine seq_skip hF (wn_u hF rfl rfl rfl rfl) rfl rfl ?_
        clear hF; intro a hF
        refine seq_skip hF (wn_u hF rfl rfl rfl rfl) rfl rfl ?_
        clear hF; intro a hF
        refine seq_skip hF (wn_u hF rfl rfl rfl rfl) rfl rfl ?_
        clear hF; intro a hF
        refine seq_skip hF (wn_u hF rfl rfl rfl rfl) rfl rfl ?_
        clear hF; intro a hF
        refine seq_skip hF (wn_f hF rfl rfl rfl rfl) rfl rfl ?_
        clear hF; intro a hF
        refine seq_yl hF (wn_none rfl) rfl rfl (yl_pick (u := _) (v := undef) hF rfl rfl (fun h => by cases h) (fun _ => rfl)) ?_
        clear hF; intro a hF
        refine seq_yl hF (wn_none rfl) rfl rfl (yl_assign hF rfl rfl) ?_
        clear hF; intro a hF
        refine wpList_nil ?_
        refine then_n ?_
        refine c_seq ?_
        refine c_seq ?_
        refine c_region ?_
        refine seq_yl hF (wn_none rfl) rfl rfl (yl_loadK (rs := [_, _, _, _]) (fun _ h => h ▸ hS) hF rfl rfl 0 rfl ag27 sz27 rfl rfl) ?_
        clear hF; intro a hF
        refine seq_yl hF (wn_none rfl) rfl rfl (yl_fieldAddr hF rfl rfl (fun w => by kernel_rfl : ∀ w, (Instr.fieldAt 37 (.pointer (some ⟨g322, 0, none⟩)) 5).run Try.prog w = .ok (.pointer (some ⟨g322, 5, none⟩)) w)) ?_
        clear hF; intro a hF
        refine seq_yl hF (wn_none rfl) rfl rfl (yl_loadK (rs := [_, _, _, _]) (fun _ h => h ▸ hS) hF rfl rfl 2 rfl ag27 sz27 rfl rfl) ?_
        clear hF; intro a hF
        refine seq_yl hF (wn_none rfl) rfl rfl (yl_binA hF rfl rfl rfl (fun w => run_eqGuard_agg w _ _ _ _ _ _ hm27) (fun w => eqs27 _ _ _ _ _ _ _ _ w)) ?_
        clear hF; intro a hF
        rcases hcc with ⟨hq, hcc⟩ | ⟨hq, hcc, hz1, hz2, hz3, hz4⟩
        · skip
          replace hF := fr_set (b' := true) hF (by assumption)
          refine seq_yl hF (wn_none rfl) rfl rfl (yl_move hF rfl rfl) ?_
          clear hF; intro a hF
          refine seq_yl hF (wn_none rfl) rfl rfl (yl_bin hF rfl rfl rfl rfl (fun _ => run_neb Try.underlying4)) ?_
          clear hF; intro a hF
          replace hF := fr_set (b' := false) hF (by first | rfl | (exfalso; omega))
          refine seq_yl hF (wn_none rfl) rfl rfl (yl_move hF rfl rfl) ?_
          clear hF; intro a hF
          refine seq_yl hF (wn_t hF rfl rfl rfl rfl) rfl rfl (yl_move hF rfl rfl) ?_
          clear hF; intro a hF
          refine seq_yl hF (wn_t hF rfl rfl rfl rfl) rfl rfl (yl_un hF rfl rfl (fun _ => run_not)) ?_
          clear hF; intro a hF
          refine seq_yl hF (wn_t hF rfl rfl rfl rfl) rfl rfl (yl_move hF rfl rfl) ?_
          clear hF; intro a hF
          refine seq_yl hF (wn_t hF rfl rfl rfl rfl) rfl rfl (yl_loadK (rs := [_, _, _, _]) (fun _ h => h ▸ hS) hF rfl rfl 0 rfl ag27 sz27 rfl rfl) ?_
          clear hF; intro a hF
          refine seq_yl hF (wn_t hF rfl rfl rfl rfl) rfl rfl (yl_build (parts := []) (vs := []) (cs := [_, _, _, _]) hF bd27 rfl rfl rfl rfl) ?_
          clear hF; intro a hF
          refine seq_yl hF (wn_t hF rfl rfl rfl rfl) rfl rfl (yl_binA hF rfl rfl rfl (fun w => run_eqGuard_agg w _ _ _ _ _ _ hm27) (fun w => nes27 _ _ _ _ _ _ _ _ w)) ?_
          clear hF; intro a hF
          replace hF := fr_set (b' := false) hF ((by exfalso; first | omega | simp_all))
          refine seq_yl hF (wn_t hF rfl rfl rfl rfl) rfl rfl (yl_pick (u := _) (v := undef) hF rfl rfl (fun _ => rfl) (fun h => by cases h)) ?_
          clear hF; intro a hF
          refine seq_yl hF (wn_none rfl) rfl rfl (yl_pick (u := _) (v := undef) hF rfl rfl (fun h => by cases h) (fun _ => rfl)) ?_
          clear hF; intro a hF
          refine wpList_nil ?_
          refine then_n ?_
          refine c_cond_f hF rfl ?_
          refine wp_skip ?_
          refine then_n ?_
          refine c_region ?_
          refine seq_yl hF (wn_none rfl) rfl rfl (yl_move hF rfl rfl) ?_
          clear hF; intro a hF
          refine seq_yl hF (wn_none rfl) rfl rfl (yl_assign hF rfl rfl) ?_
          clear hF; intro a hF
          refine wpList_nil ?_
          refine inb_n ?_
          refine then_n ?_
          refine c_region ?_
          refine seq_yl hF (wn_none rfl) rfl rfl (yl_move hF rfl rfl) ?_
          clear hF; intro a hF
          refine seq_yl hF (wn_none rfl) rfl rfl (yl_bin hF rfl rfl rfl rfl (fun _ => run_inc (by omega))) ?_
          clear hF; intro a hF
          refine seq_yl hF (wn_none rfl) rfl rfl (yl_assign hF rfl rfl) ?_
          clear hF; intro a hF
          refine wpList_nil ?_
          refine then_n ?_
          rw [hL1] at hS hF
          exact ⟨_, (by omega), i + 1, sk1, tm1, Av326, cv326, rfl, ⟨by omega, by omega, by omega⟩, hF.to [4, 5, 6, 7, 8] rfl, (hS.sub [2, 1] (by decide) (by first | rfl | simp) (by simp))⟩
        · skip
          replace hF := fr_set (b' := false) hF (by assumption)
          refine seq_yl hF (wn_none rfl) rfl rfl (yl_move hF rfl rfl) ?_
          clear hF; intro a hF
          refine seq_yl hF (wn_none rfl) rfl rfl (yl_bin hF rfl rfl rfl rfl (fun _ => run_neb Try.underlying4)) ?_
          clear hF; intro a hF
          replace hF := fr_set (b' := false) hF (by first | rfl | (exfalso; omega))
          refine seq_yl hF (wn_none rfl) rfl rfl (yl_move hF rfl rfl) ?_
          clear hF; intro a hF
          refine seq_yl hF (wn_t hF rfl rfl rfl rfl) rfl rfl (yl_move hF rfl rfl) ?_
          clear hF; intro a hF
          refine seq_yl hF (wn_t hF rfl rfl rfl rfl) rfl rfl (yl_un hF rfl rfl (fun _ => run_not)) ?_
          clear hF; intro a hF
          refine seq_yl hF (wn_t hF rfl rfl rfl rfl) rfl rfl (yl_move hF rfl rfl) ?_
          clear hF; intro a hF
          refine seq_yl hF (wn_t hF rfl rfl rfl rfl) rfl rfl (yl_loadK (rs := [_, _, _, _]) (fun _ h => h ▸ hS) hF rfl rfl 0 rfl ag27 sz27 rfl rfl) ?_
          clear hF; intro a hF
          refine seq_yl hF (wn_t hF rfl rfl rfl rfl) rfl rfl (yl_build (parts := []) (vs := []) (cs := [_, _, _, _]) hF bd27 rfl rfl rfl rfl) ?_
          clear hF; intro a hF
          refine seq_yl hF (wn_t hF rfl rfl rfl rfl) rfl rfl (yl_binA hF rfl rfl rfl (fun w => run_eqGuard_agg w _ _ _ _ _ _ hm27) (fun w => nes27 _ _ _ _ _ _ _ _ w)) ?_
          clear hF; intro a hF
          replace hF := fr_set (b' := false) hF (by rw [decide_eq_false_iff_not]; exact not_not_intro ⟨hz1, hz2, hz3, hz4⟩)
          refine seq_yl hF (wn_t hF rfl rfl rfl rfl) rfl rfl (yl_pick (u := _) (v := undef) hF rfl rfl (fun _ => rfl) (fun h => by cases h)) ?_
          clear hF; intro a hF
          refine seq_yl hF (wn_none rfl) rfl rfl (yl_pick (u := _) (v := undef) hF rfl rfl (fun h => by cases h) (fun _ => rfl)) ?_
          clear hF; intro a hF
          refine wpList_nil ?_
          refine then_n ?_
          refine c_cond_f hF rfl ?_
          refine wp_skip ?_
          refine then_n ?_
          refine c_region ?_
          refine seq_yl hF (wn_none rfl) rfl rfl (yl_move hF rfl rfl) ?_
          clear hF; intro a hF
          refine seq_yl hF (wn_none rfl) rfl rfl (yl_assign hF rfl rfl) ?_
          clear hF; intro a hF
          refine wpList_nil ?_
          refine inb_n ?_
          refine then_n ?_
          refine c_region ?_
          refine seq_yl hF (wn_none rfl) rfl rfl (yl_move hF rfl rfl) ?_
          clear hF; intro a hF
          refine seq_yl hF (wn_none rfl) rfl rfl (yl_bin hF rfl rfl rfl rfl (fun _ => run_inc (by omega))) ?_
          clear hF; intro a hF
          refine seq_yl hF (wn_none rfl) rfl rfl (yl_assign hF rfl rfl) ?_
          clear hF; intro a hF
          refine wpList_nil ?_
          refine then_n ?_
          rw [hL1] at hS hF
          exact ⟨_, (by omega), i + 1, sk1, tm1, Av326, cv326, rfl, ⟨by omega, by omega, by omega⟩, hF.to [4, 5, 6, 7, 8] rfl, (hS.sub [2, 1] (by decide) (by first | rfl | simp) (by simp))⟩
    · first | (replace hc325 := of_decide_eq_false hc325) | (replace hc325 := of_decide_eq_true (bnot_f hc325)) | (subst hc325) | (replace hc325 := bnot_f hc325; subst hc325) | (replace hc325 := bnot_f hc325) | skip
      refine wp_exit ?_
      refine then_x ?_
      refine then_x ?_
      refine inb_x ?_
      refine then_n ?_
      refine c_seq ?_
      refine ha_startS hS [0] 24 (by kernel_rfl) ?_; clear hS; intro w hS
      have hSS := hS.sub [0] (by decide) rfl (by simp)
      refine ha_y 0 hF rfl rfl rfl (wn_none rfl) (.inr hSS) (yl_move hF rfl rfl) ?_
      clear hF; intro a hF
      refine ha_y 2 hF rfl rfl rfl (wn_none rfl) (.inr hSS) (yl_fieldAddr hF rfl rfl (fun w => by kernel_rfl : ∀ w, (Instr.fieldAt 37 (.pointer (some ⟨g322, 0, none⟩)) 4).run Try.prog w = .ok (.pointer (some ⟨g322, 4, none⟩)) w)) ?_
      clear hF; intro a hF
      refine ha_l 3 hF rfl rfl rfl (wn_none rfl) hSS (yl_load (fun _ h => h) hF rfl rfl 0 rfl ag3 rfl) ?_
      clear hF; intro a hF
      refine ha_y 4 hF rfl rfl rfl (wn_none rfl) (.inr hSS) (yl_bin hF rfl rfl rfl rfl (fun _ => run_geq)) ?_
      clear hF; intro a hF
      refine ha_one 1 (by kernel_rfl) rfl (wn_none rfl) (wp_call (vs := [_]) hF rfl rfl rfl rfl cf16 (quiet_any _ [E37.mk 1 f306 l307 sk tm er310 dn311 hf312 5] _ (hS.rdRow 1 rfl) (by first | omega | (simp; done) | (simp; omega))) ?_)
      clear hF; rintro _ w ⟨rfl, hS1⟩ a hF
      replace hS := hS.callB hS1 rfl; clear hS1
      replace hSS := hS.sub [0] (by decide) rfl (by simp)
      refine ⟨.inr hSS, ?_⟩
      refine ha_y 5 hF rfl rfl rfl (wn_none rfl) (.inr hSS) (yl_move hF rfl rfl) ?_
      clear hF; intro a hF
      refine fr_split hF (fun hc338 hF => ?_) (fun hc338 hF => ?_)
      · first | (replace hc338 := of_decide_eq_true hc338) | (replace hc338 := of_decide_eq_false (bnot_t hc338)) | (subst hc338) | (replace hc338 := bnot_t hc338; subst hc338) | (replace hc338 := bnot_t hc338) | skip
        refine ha_y 6 hF rfl rfl rfl (wn_t hF rfl rfl rfl rfl) (.inr hSS) (yl_move hF rfl rfl) ?_
        clear hF; intro a hF
        refine ha_y 7 hF rfl rfl rfl (wn_t hF rfl rfl rfl rfl) (.inr hSS) (yl_fieldAddr hF rfl rfl (fun w => by kernel_rfl : ∀ w, (Instr.fieldAt 37 (.pointer (some ⟨g322, 0, none⟩)) 3).run Try.prog w = .ok (.pointer (some ⟨g322, 3, none⟩)) w)) ?_
        clear hF; intro a hF
        refine ha_y 9 hF rfl rfl rfl (wn_t hF rfl rfl rfl rfl) (.inr hSS) (yl_fieldAddr hF rfl rfl (fun w => by kernel_rfl : ∀ w, (Instr.fieldAt 37 (.pointer (some ⟨g322, 0, none⟩)) 4).run Try.prog w = .ok (.pointer (some ⟨g322, 4, none⟩)) w)) ?_
        clear hF; intro a hF
        refine ha_l 8 hF rfl rfl rfl (wn_t hF rfl rfl rfl rfl) hSS (yl_load (fun _ h => h) hF rfl rfl 0 rfl ag3 rfl) ?_
        clear hF; intro a hF
        refine ha_l 10 hF rfl rfl rfl (wn_t hF rfl rfl rfl rfl) hSS (yl_load (fun _ h => h) hF rfl rfl 0 rfl ag3 rfl) ?_
        clear hF; intro a hF
        refine ha_y 11 hF rfl rfl rfl (wn_t hF rfl rfl rfl rfl) (.inr hSS) (yl_bin hF rfl rfl rfl rfl (fun _ => run_add (by refine ⟨?_, ?_⟩ <;> omega))) ?_
        clear hF; intro a hF
        refine ha_y 12 hF rfl rfl rfl (wn_t hF rfl rfl rfl rfl) (.inr hSS) (yl_bin hF rfl rfl rfl rfl (fun _ => run_geq)) ?_
        clear hF; intro a hF
        refine ha_y 13 hF rfl rfl rfl (wn_none rfl) (.inr hSS) (yl_pick (u := _) (v := undef) hF rfl rfl (fun _ => rfl) (fun h => by cases h)) ?_
        clear hF; intro a hF
        refine ha_y 14 hF rfl rfl rfl (wn_none rfl) (.inr hSS) (yl_move hF rfl rfl) ?_
        clear hF; intro a hF
        refine fr_split hF (fun hc339 hF => ?_) (fun hc339 hF => ?_)
        · first | (replace hc339 := of_decide_eq_true hc339) | (replace hc339 := of_decide_eq_false (bnot_t hc339)) | (subst hc339) | (replace hc339 := bnot_t hc339; subst hc339) | (replace hc339 := bnot_t hc339) | skip
          refine ha_s 15 hF rfl rfl rfl (wn_f hF rfl rfl rfl rfl) (.inr hSS) ?_
          clear hF; intro a hF
          refine ha_s 16 hF rfl rfl rfl (wn_f hF rfl rfl rfl rfl) (.inr hSS) ?_
          clear hF; intro a hF
          refine ha_s 17 hF rfl rfl rfl (wn_f hF rfl rfl rfl rfl) (.inr hSS) ?_
          clear hF; intro a hF
          refine ha_y 18 hF rfl rfl rfl (wn_none rfl) (.inr hSS) (yl_pick (u := _) (v := undef) hF rfl rfl (fun _ => rfl) (fun h => by cases h)) ?_
          clear hF; intro a hF
          refine ha_y 19 hF rfl rfl rfl (wn_none rfl) (.inr hSS) (yl_bin hF rfl rfl rfl rfl (fun _ => run_eqb Try.underlying4)) ?_
          clear hF; intro a hF
          replace hF := fr_set (b' := true) hF ((by have h8 : quietB [E37.mk 1 f306 l307 sk tm er310 dn311 hf312 5] = decide (tm = 0) := (by unfold quietB; by_cases h : tm = 0 <;> simp [h]); have hb9 : quietB [E37.mk 1 f306 l307 sk tm er310 dn311 hf312 5] = true := (by rw [h8]; first | exact decide_eq_true (by omega) | exact decide_eq_false (by omega) | exact decide_eq_decide.2 (by omega)); rw [hb9]; simp))
          refine ha_y 20 hF rfl rfl rfl (wn_none rfl) (.inr hSS) (yl_move hF rfl rfl) ?_
          clear hF; intro a hF
          refine ha_one 21 (by kernel_rfl) rfl (wn_t hF rfl rfl rfl rfl) (wp_call (vs := []) hF rfl rfl rfl rfl cf18 (awake_any _) ?_)
          clear hF; rintro _ w ⟨rfl, hS1⟩ a hF
          replace hS := hS.callB hS1 rfl; clear hS1
          replace hSS := hS.sub [0] (by decide) rfl (by simp)
          refine ⟨.inr hSS, ?_⟩
          refine ha_y 22 hF rfl rfl rfl (wn_none rfl) (.inr hSS) (yl_pick (u := _) (v := undef) hF rfl rfl (fun _ => rfl) (fun h => by cases h)) ?_
          clear hF; intro a hF
          refine ha_y 23 hF rfl rfl rfl (wn_none rfl) (.inr hSS) (yl_assign hF rfl rfl) ?_
          clear hF; intro a hF
          refine ha_done (by kernel_rfl) ?_ _
          refine then_n ?_
          refine wp_ret ?_
          refine ret_t hF rfl rfl ?_
          exact ⟨_, rfl, rfl, (hS.sub [] (by decide) (by first | rfl | simp) (by simp))⟩
        · first | (replace hc339 := of_decide_eq_false hc339) | (replace hc339 := of_decide_eq_true (bnot_f hc339)) | (subst hc339) | (replace hc339 := bnot_f hc339; subst hc339) | (replace hc339 := bnot_f hc339) | skip
          refine ha_y 15 hF rfl rfl rfl (wn_t hF rfl rfl rfl rfl) (.inr hSS) (yl_fieldAddr hF rfl rfl (fun w => by kernel_rfl : ∀ w, (Instr.fieldAt 37 (.pointer (some ⟨g322, 0, none⟩)) 4).run Try.prog w = .ok (.pointer (some ⟨g322, 4, none⟩)) w)) ?_
          clear hF; intro a hF
          refine ha_l 16 hF rfl rfl rfl (wn_t hF rfl rfl rfl rfl) hSS (yl_load (fun _ h => h) hF rfl rfl 0 rfl ag3 rfl) ?_
          clear hF; intro a hF
          refine ha_y 17 hF rfl rfl rfl (wn_t hF rfl rfl rfl rfl) (.inr hSS) (yl_bin hF rfl rfl rfl rfl (fun _ => run_eql)) ?_
          clear hF; intro a hF
          refine ha_y 18 hF rfl rfl rfl (wn_none rfl) (.inr hSS) (yl_pick (u := _) (v := undef) hF rfl rfl (fun h => by cases h) (fun _ => rfl)) ?_
          clear hF; intro a hF
          refine ha_y 19 hF rfl rfl rfl (wn_none rfl) (.inr hSS) (yl_bin hF rfl rfl rfl rfl (fun _ => run_eqb Try.underlying4)) ?_
          clear hF; intro a hF
          replace hF := fr_set (b' := true) hF ((by have h8 : quietB [E37.mk 1 f306 l307 sk tm er310 dn311 hf312 5] = decide (tm = 0) := (by unfold quietB; by_cases h : tm = 0 <;> simp [h]); have hb9 : quietB [E37.mk 1 f306 l307 sk tm er310 dn311 hf312 5] = (decide ((t309) = (0 : Int))) := (by rw [h8]; first | exact decide_eq_true (by omega) | exact decide_eq_false (by omega) | exact decide_eq_decide.2 (by omega)); rw [hb9]; simp))
          refine ha_y 20 hF rfl rfl rfl (wn_none rfl) (.inr hSS) (yl_move hF rfl rfl) ?_
          clear hF; intro a hF
          refine ha_one 21 (by kernel_rfl) rfl (wn_t hF rfl rfl rfl rfl) (wp_call (vs := []) hF rfl rfl rfl rfl cf18 (awake_any _) ?_)
          clear hF; rintro _ w ⟨rfl, hS1⟩ a hF
          replace hS := hS.callB hS1 rfl; clear hS1
          replace hSS := hS.sub [0] (by decide) rfl (by simp)
          refine ⟨.inr hSS, ?_⟩
          refine ha_y 22 hF rfl rfl rfl (wn_none rfl) (.inr hSS) (yl_pick (u := _) (v := undef) hF rfl rfl (fun _ => rfl) (fun h => by cases h)) ?_
          clear hF; intro a hF
          refine ha_y 23 hF rfl rfl rfl (wn_none rfl) (.inr hSS) (yl_assign hF rfl rfl) ?_
          clear hF; intro a hF
          refine ha_done (by kernel_rfl) ?_ _
          refine then_n ?_
          refine wp_ret ?_
          refine ret_t hF rfl rfl ?_
          exact ⟨_, rfl, rfl, (hS.sub [] (by decide) (by first | rfl | simp) (by simp))⟩
      · first | (replace hc338 := of_decide_eq_false hc338) | (replace hc338 := of_decide_eq_true (bnot_f hc338)) | (subst hc338) | (replace hc338 := bnot_f hc338; subst hc338) | (replace hc338 := bnot_f hc338) | skip
        refine ha_s 6 hF rfl rfl rfl (wn_f hF rfl rfl rfl rfl) (.inr hSS) ?_
        clear hF; intro a hF
        refine ha_s 7 hF rfl rfl rfl (wn_f hF rfl rfl rfl rfl) (.inr hSS) ?_
        clear hF; intro a hF
        refine ha_s 8 hF rfl rfl rfl (wn_f hF rfl rfl rfl rfl) (.inr hSS) ?_
        clear hF; intro a hF
        refine ha_s 9 hF rfl rfl rfl (wn_f hF rfl rfl rfl rfl) (.inr hSS) ?_
        clear hF; intro a hF
        refine ha_s 10 hF rfl rfl rfl (wn_f hF rfl rfl rfl rfl) (.inr hSS) ?_
        clear hF; intro a hF
        refine ha_s 11 hF rfl rfl rfl (wn_f hF rfl rfl rfl rfl) (.inr hSS) ?_
        clear hF; intro a hF
        refine ha_s 12 hF rfl rfl rfl (wn_f hF rfl rfl rfl rfl) (.inr hSS) ?_
        clear hF; intro a hF
        refine ha_y 13 hF rfl rfl rfl (wn_none rfl) (.inr hSS) (yl_pick (u := _) (v := undef) hF rfl rfl (fun h => by cases h) (fun _ => rfl)) ?_
        clear hF; intro a hF
        refine ha_y 14 hF rfl rfl rfl (wn_none rfl) (.inr hSS) (yl_move hF rfl rfl) ?_
        clear hF; intro a hF
        refine ha_y 15 hF rfl rfl rfl (wn_t hF rfl rfl rfl rfl) (.inr hSS) (yl_fieldAddr hF rfl rfl (fun w => by kernel_rfl : ∀ w, (Instr.fieldAt 37 (.pointer (some ⟨g322, 0, none⟩)) 4).run Try.prog w = .ok (.pointer (some ⟨g322, 4, none⟩)) w)) ?_
        clear hF; intro a hF
        refine ha_l 16 hF rfl rfl rfl (wn_t hF rfl rfl rfl rfl) hSS (yl_load (fun _ h => h) hF rfl rfl 0 rfl ag3 rfl) ?_
        clear hF; intro a hF
        refine ha_y 17 hF rfl rfl rfl (wn_t hF rfl rfl rfl rfl) (.inr hSS) (yl_bin hF rfl rfl rfl rfl (fun _ => run_eql)) ?_
        clear hF; intro a hF
        refine ha_y 18 hF rfl rfl rfl (wn_none rfl) (.inr hSS) (yl_pick (u := _) (v := undef) hF rfl rfl (fun h => by cases h) (fun _ => rfl)) ?_
        clear hF; intro a hF
        refine ha_y 19 hF rfl rfl rfl (wn_none rfl) (.inr hSS) (yl_bin hF rfl rfl rfl rfl (fun _ => run_eqb Try.underlying4)) ?_
        clear hF; intro a hF
        replace hF := fr_set (b' := true) hF ((by have h8 : quietB [E37.mk 1 f306 l307 sk tm er310 dn311 hf312 5] = decide (tm = 0) := (by unfold quietB; by_cases h : tm = 0 <;> simp [h]); have hb9 : quietB [E37.mk 1 f306 l307 sk tm er310 dn311 hf312 5] = (decide ((t309) = (0 : Int))) := (by rw [h8]; first | exact decide_eq_true (by omega) | exact decide_eq_false (by omega) | exact decide_eq_decide.2 (by omega)); rw [hb9]; simp))
        refine ha_y 20 hF rfl rfl rfl (wn_none rfl) (.inr hSS) (yl_move hF rfl rfl) ?_
        clear hF; intro a hF
        refine ha_one 21 (by kernel_rfl) rfl (wn_t hF rfl rfl rfl rfl) (wp_call (vs := []) hF rfl rfl rfl rfl cf18 (awake_any _) ?_)
        clear hF; rintro _ w ⟨rfl, hS1⟩ a hF
        replace hS := hS.callB hS1 rfl; clear hS1
        replace hSS := hS.sub [0] (by decide) rfl (by simp)
        refine ⟨.inr hSS, ?_⟩
        refine ha_y 22 hF rfl rfl rfl (wn_none rfl) (.inr hSS) (yl_pick (u := _) (v := undef) hF rfl rfl (fun _ => rfl) (fun h => by cases h)) ?_
        clear hF; intro a hF
        refine ha_y 23 hF rfl rfl rfl (wn_none rfl) (.inr hSS) (yl_assign hF rfl rfl) ?_
        clear hF; intro a hF
        refine ha_done (by kernel_rfl) ?_ _
        refine then_n ?_
        refine wp_ret ?_
        refine ret_t hF rfl rfl ?_
        exact ⟨_, rfl, rfl, (hS.sub [] (by decide) (by first | rfl | simp) (by simp))⟩

end Go.Proofs.Ytkejcnhfbfgphaa

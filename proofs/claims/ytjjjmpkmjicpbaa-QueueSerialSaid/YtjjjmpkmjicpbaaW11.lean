/- walks, printed by wip/gen -/
import Derived.Test.YtjjjmpkmjicpbaaW8
import Derived.Test.YtjjjmpkmjicpbaaW9
namespace Go.Proofs.Ytjjjmpkmjicpbaa
open Go.RowKit
set_option linter.unusedVariables false
set_option linter.unusedSimpArgs false

set_option maxHeartbeats 4000000 in
theorem serial_any (v : Value) (L : List Int) (n : Int) (w0 : World) (hv : Rd w0 1 v (L).length (cells encI (L))) (hL : L.length ≤ 9223372036854775807) :
    Fn Try.prog 3 #[v, .int .i64 n] w0 (fun v w' => v = .bool true ∧ Sat w0 w' []) := by
  obtain ⟨Av, cv, rfl⟩ := Rd.form hv
  refine c_enter (N := 142) (l := [_, _]) Try.func3 rfl rfl (fun a w hF hS => ?_)
  replace hS := hS.addRo hv
  refine c_seq ?_
  refine c_region ?_
  refine seq_yl hF (wn_none rfl) rfl rfl (yl_assign hF rfl rfl) ?_
  clear hF; intro a hF
  refine wpList_nil ?_
  refine then_n ?_
  refine c_seq ?_
  refine c_region ?_
  refine seq_wp (wn_none rfl) (wp_alloc (cs := #[_, _, _, _]) hF hS rfl rfl rfl zr25 rfl ?_)
  clear hF hS; intro a w g472 hF hS
  refine wpList_nil ?_
  refine then_n ?_
  refine c_seq ?_
  refine c_region ?_
  refine seq_yl hF (wn_none rfl) rfl rfl (yl_move hF rfl rfl) ?_
  clear hF; intro a hF
  refine seq_wp (wn_none rfl) (wp_call (vs := [_, _]) hF rfl rfl rfl rfl cf10 (pushed_any _ ([] : List Int) (n) _ (rd_nil _ 1 0 encI) (by first | omega | (simp; done) | (simp; omega))) ?_)
  clear hF; rintro _ w ⟨q473, b474, e475, m476, now477, v478, rfl, hq479, hb480, he481, hm482, hn483, hS1⟩ a hF
  replace hS := hS.callB hS1 rfl; clear hS1
  obtain ⟨Av478, cv478, rfl⟩ := hS.form 0 rfl
  have hdq473 := hq479.d; have hhq473 := hq479.h; have hfq473 := hq479.f; have hlq473 := hq479.len
  refine seq_yl hF (wn_none rfl) rfl rfl (yl_move hF rfl rfl) ?_
  clear hF; intro a hF
  refine seq_yl hF (wn_none rfl) rfl rfl (yl_extract hF rfl rfl rfl) ?_
  clear hF; intro a hF
  refine seq_yl hF (wn_none rfl) rfl rfl (yl_extract hF rfl rfl rfl) ?_
  clear hF; intro a hF
  refine seq_yl hF (wn_none rfl) rfl rfl (yl_extract hF rfl rfl rfl) ?_
  clear hF; intro a hF
  refine seq_wp (wn_none rfl) (wp_alloc (cs := #[_, _, _, _]) hF hS rfl rfl rfl zr25 rfl ?_)
  clear hF hS; intro a w g484 hF hS
  refine seq_wp (wn_none rfl) (wp_alloc (cs := #[_, _, _]) hF hS rfl rfl rfl zr27 rfl ?_)
  clear hF hS; intro a w g485 hF hS
  refine seq_wp (wn_none rfl) (wp_store (cs' := #[_, _, _, _]) hF hS rfl rfl rfl rfl 1 rfl sz25 (by simp [Value.cells, Value.oneCell']) (by simp [Value.cells]) rfl ?_)
  clear hF hS; intro a w hF hS
  refine seq_wp (wn_none rfl) (wp_store (cs' := #[_, _, _]) hF hS rfl rfl rfl rfl 0 rfl sz27 (by simp [Value.cells, Value.oneCell']) (by simp [Value.cells]) rfl ?_)
  clear hF hS; intro a w hF hS
  refine seq_yl hF (wn_none rfl) rfl rfl (yl_assign hF rfl rfl) ?_
  clear hF; intro a hF
  refine wpList_nil ?_
  refine then_n ?_
  refine c_seq ?_
  refine c_region ?_
  refine seq_yl hF (wn_none rfl) rfl rfl (yl_fieldAddr hF rfl rfl (fun w => by kernel_rfl : ∀ w, (Instr.fieldAt 25 (.pointer (some ⟨g484, 0, none⟩)) 0).run Try.prog w = .ok (.pointer (some ⟨g484, 0, none⟩)) w)) ?_
  clear hF; intro a hF
  refine seq_yl hF (wn_none rfl) rfl rfl (yl_load (fun _ h => h ▸ hS) hF rfl rfl 1 rfl ag3 rfl) ?_
  clear hF; intro a hF
  refine seq_yl hF (wn_none rfl) rfl rfl (yl_fieldAddr hF rfl rfl (fun w => by kernel_rfl : ∀ w, (Instr.fieldAt 25 (.pointer (some ⟨g472, 0, none⟩)) 0).run Try.prog w = .ok (.pointer (some ⟨g472, 0, none⟩)) w)) ?_
  clear hF; intro a hF
  refine seq_wp (wn_none rfl) (wp_store (cs' := #[_, _, _, _]) hF hS rfl rfl rfl rfl 3 rfl sz3 (by simp [Value.cells, Value.oneCell']) (by simp [Value.cells]) rfl ?_)
  clear hF hS; intro a w hF hS
  refine wpList_nil ?_
  refine then_n ?_
  refine c_seq ?_
  refine c_region ?_
  refine seq_yl hF (wn_none rfl) rfl rfl (yl_assign hF rfl rfl) ?_
  clear hF; intro a hF
  refine seq_yl hF (wn_none rfl) rfl rfl (yl_assign hF rfl rfl) ?_
  clear hF; intro a hF
  refine wpList_nil ?_
  refine then_n ?_
  refine c_seq ?_
  refine c_seq ?_
  refine c_region ?_
  refine seq_yl hF (wn_none rfl) rfl rfl (yl_assign hF rfl rfl) ?_
  clear hF; intro a hF
  refine wpList_nil ?_
  refine then_n ?_
  refine wp_block ?_
  replace hS := hS.addNil 39 12
  refine c_loop (fun m a w => ∃ (i : Nat) (now last : Int) (Q : Qu) (AvQ : Option Addr) (cvQ : Nat), m = 10 - i ∧ (i ≤ 10 ∧ 0 ≤ now ∧ now ≤ 6 * (i : Int) ∧ last = Q.f ∧ PQ Q (i : Int) ∧ Q.d = (q473.d)) ∧ Fr 142 a [(0, .slice Av (L).length cv), (4, .bool false), (5, .pointer (some ⟨g472, 0, none⟩)), (7, .pointer (some ⟨g485, 0, none⟩)), (9, .int .i64 (now)), (10, .int .i64 (last)), (11, .int .i64 ((i : Nat) : Int))] ∧ Sat w0 w (.box g472 25 #[.int .i64 (Q.d), .int .i64 (Q.h), .int .i64 (Q.f), .slice AvQ (Q.L).length cvQ] :: .box g485 27 #[.int .i64 (b474), .int .i64 (e475), .int .i64 (m476)] :: .ro 1 (.slice Av (L).length cv) (L).length (cells encI (L)) :: .row 39 12 (.slice AvQ (Q.L).length cvQ) (Q.L).length (cells enc39 (Q.L)) :: [])) (10 - 0) ?_ ?_
  · exact ⟨0, 0, 0, ⟨(q473.d), 0, 0, []⟩, none, 0, rfl, ⟨by omega, by omega, by omega, rfl, pq_zero (by omega), rfl⟩, hF.to [0, 4, 5, 7, 9, 10, 11] rfl, (hS.sub [4, 1, 5, 0] (by decide) (by first | rfl | simp) (by simp))⟩
  · clear hF hS; try clear hSS
    clear a w; rintro m a w ⟨i, now, last, Q, AvQ, cvQ, rfl, hinv, hF, hS⟩
    obtain ⟨hi, hn0, hn1, hlast0, hpq0, hQd⟩ := hinv
    have hql : Q.L.length ≤ 8 := by have := hpq0.d; have := hpq0.len; omega
    have hQf := hpq0.f
    refine c_seq ?_
    refine c_seq ?_
    refine c_region ?_
    refine seq_yl hF (wn_none rfl) rfl rfl (yl_move hF rfl rfl) ?_
    clear hF; intro a hF
    refine seq_yl hF (wn_none rfl) rfl rfl (yl_move hF rfl rfl) ?_
    clear hF; intro a hF
    refine seq_yl hF (wn_none rfl) rfl rfl (yl_len hF rfl rfl (fun _ => run_lenRd sl22 (hS.rdRo 2 rfl))) ?_
    clear hF; intro a hF
    refine seq_yl hF (wn_none rfl) rfl rfl (yl_bin hF rfl rfl rfl rfl (fun _ => run_lss)) ?_
    clear hF; intro a hF
    refine seq_yl hF (wn_none rfl) rfl rfl (yl_move hF rfl rfl) ?_
    clear hF; intro a hF
    refine fr_split hF (fun hc486 hF => ?_) (fun hc486 hF => ?_)
    · first | (replace hc486 := of_decide_eq_true hc486) | (replace hc486 := of_decide_eq_false (bnot_t hc486)) | (subst hc486) | (replace hc486 := bnot_t hc486; subst hc486) | (replace hc486 := bnot_t hc486) | skip
      refine seq_yl hF (wn_t hF rfl rfl rfl rfl) rfl rfl (yl_move hF rfl rfl) ?_
      clear hF; intro a hF
      refine seq_yl hF (wn_t hF rfl rfl rfl rfl) rfl rfl (yl_bin hF rfl rfl rfl rfl (fun _ => run_lss)) ?_
      clear hF; intro a hF
      refine seq_yl hF (wn_none rfl) rfl rfl (yl_pick (u := _) (v := undef) hF rfl rfl (fun _ => rfl) (fun h => by cases h)) ?_
      clear hF; intro a hF
      refine wpList_nil ?_
      refine then_n ?_
      refine c_cond hF rfl (fun hc487 => ?_) (fun hc487 => ?_)
      · first | (replace hc487 := of_decide_eq_true hc487) | (replace hc487 := of_decide_eq_false (bnot_t hc487)) | (subst hc487) | (replace hc487 := bnot_t hc487; subst hc487) | (replace hc487 := bnot_t hc487) | skip
        refine wp_skip ?_
        refine then_n ?_
        refine c_seq ?_
        refine wp_block ?_
        refine c_seq ?_
        refine c_region ?_
        refine seq_yl hF (wn_none rfl) rfl rfl (yl_move hF rfl rfl) ?_
        clear hF; intro a hF
        refine seq_yl hF (wn_none rfl) rfl rfl (yl_move hF rfl rfl) ?_
        clear hF; intro a hF
        refine seq_yl hF (wn_none rfl) rfl rfl (yl_move hF rfl rfl) ?_
        clear hF; intro a hF
        have hlt_hx488 : i < (L).length := by first | omega | (simp; done) | (simp; omega)
        obtain ⟨ad489, rfl⟩ := rd_some (hS.rdRo 2 rfl) hlt_hx488
        obtain ⟨x488, hx488⟩ := get_some hlt_hx488
        refine seq_yl hF (wn_none rfl) rfl rfl (yl_indexAddr hF rfl rfl rfl (fun _ => run_idx' sl22 sz3 (hS.rdRo 2 rfl) hlt_hx488)) ?_
        clear hF; intro a hF
        refine seq_yl hF (wn_none rfl) rfl rfl (yl_loadAt hF rfl rfl ag3 (fun _ h => rd_cell0 (enc := encI) (by subst h; exact hS.rdRo 2 rfl) encI_len hx488 rfl rfl)) ?_
        clear hF; intro a hF
        have hr490 := rnd_bounds (x488) (7 : Int) (by omega)
        refine seq_wp (wn_none rfl) (wp_call (vs := [_, _]) hF rfl rfl rfl rfl cf11 (round_any (x488) (7 : Int) _ (by omega)) ?_)
        clear hF; rintro _ w ⟨rfl, hS1⟩ a hF
        replace hS := hS.callB hS1 rfl; clear hS1
        refine seq_yl hF (wn_none rfl) rfl rfl (yl_bin hF rfl rfl rfl rfl (fun _ => run_add (by refine ⟨?_, ?_⟩ <;> omega))) ?_
        clear hF; intro a hF
        refine seq_yl hF (wn_none rfl) rfl rfl (yl_assign hF rfl rfl) ?_
        clear hF; intro a hF
        refine wpList_nil ?_
        refine then_n ?_
        refine c_seq ?_
        refine ha_startS hS [2] 30 (by kernel_rfl) ?_; clear hS; intro w hS
        have hSS := hS.sub [2] (by decide) rfl (by simp)
        refine ha_yl 0 hF rfl rfl rfl (by kernel_rfl) (by kernel_rfl) (by kernel_rfl) (by decide) (fun _ _ _ h => h) (wn_none rfl) (.inr hSS) (yl_move hF rfl rfl) ?_
        clear hF; intro a hF
        refine ha_yl 1 hF rfl rfl rfl (by kernel_rfl) (by kernel_rfl) (by kernel_rfl) (by decide) (fun _ _ _ h => h) (wn_none rfl) (.inr hSS) (yl_move hF rfl rfl) ?_
        clear hF; intro a hF
        refine ha_yl 2 hF rfl rfl rfl (by kernel_rfl) (by kernel_rfl) (by kernel_rfl) (by decide) (fun _ _ _ h => h) (wn_none rfl) (.inr hSS) (yl_move hF rfl rfl) ?_
        clear hF; intro a hF
        refine ha_yl 3 hF rfl rfl rfl (by kernel_rfl) (by kernel_rfl) (by kernel_rfl) (by decide) (fun _ _ _ h => h) (wn_none rfl) (.inr hSS) (yl_indexAddr hF rfl rfl rfl (fun _ => run_idx' sl22 sz3 (hS.rdRo 2 rfl) hlt_hx488)) ?_
        clear hF; intro a hF
        refine ha_yl 8 hF rfl rfl rfl (by kernel_rfl) (by kernel_rfl) (by kernel_rfl) (by decide) (fun _ _ _ h => h) (wn_none rfl) (.inr hSS) (yl_move hF rfl rfl) ?_
        clear hF; intro a hF
        refine ha_yl 9 hF rfl rfl rfl (by kernel_rfl) (by kernel_rfl) (by kernel_rfl) (by decide) (fun _ _ _ h => h) (wn_none rfl) (.inr hSS) (yl_move hF rfl rfl) ?_
        clear hF; intro a hF
        refine ha_yl 10 hF rfl rfl rfl (by kernel_rfl) (by kernel_rfl) (by kernel_rfl) (by decide) (fun _ _ _ h => h) (wn_none rfl) (.inr hSS) (yl_indexAddr hF rfl rfl rfl (fun _ => run_idx' sl22 sz3 (hS.rdRo 2 rfl) hlt_hx488)) ?_
        clear hF; intro a hF
        refine ha_yl 14 hF rfl rfl rfl (by kernel_rfl) (by kernel_rfl) (by kernel_rfl) (by decide) (fun _ _ _ h => h) (wn_none rfl) (.inr hSS) (yl_move hF rfl rfl) ?_
        clear hF; intro a hF
        refine ha_yl 15 hF rfl rfl rfl (by kernel_rfl) (by kernel_rfl) (by kernel_rfl) (by decide) (fun _ _ _ h => h) (wn_none rfl) (.inr hSS) (yl_move hF rfl rfl) ?_
        clear hF; intro a hF
        refine ha_yl 16 hF rfl rfl rfl (by kernel_rfl) (by kernel_rfl) (by kernel_rfl) (by decide) (fun _ _ _ h => h) (wn_none rfl) (.inr hSS) (yl_indexAddr hF rfl rfl rfl (fun _ => run_idx' sl22 sz3 (hS.rdRo 2 rfl) hlt_hx488)) ?_
        clear hF; intro a hF
        refine ha_yl 20 hF rfl rfl rfl (by kernel_rfl) (by kernel_rfl) (by kernel_rfl) (by decide) (fun _ _ _ h => h) (wn_none rfl) (.inr hSS) (yl_move hF rfl rfl) ?_
        clear hF; intro a hF
        refine ha_yl 21 hF rfl rfl rfl (by kernel_rfl) (by kernel_rfl) (by kernel_rfl) (by decide) (fun _ _ _ h => h) (wn_none rfl) (.inr hSS) (yl_move hF rfl rfl) ?_
        clear hF; intro a hF
        refine ha_yl 22 hF rfl rfl rfl (by kernel_rfl) (by kernel_rfl) (by kernel_rfl) (by decide) (fun _ _ _ h => h) (wn_none rfl) (.inr hSS) (yl_indexAddr hF rfl rfl rfl (fun _ => run_idx' sl22 sz3 (hS.rdRo 2 rfl) hlt_hx488)) ?_
        clear hF; intro a hF
        refine ha_ld 4 hF rfl rfl rfl (by kernel_rfl) (by kernel_rfl) (by kernel_rfl) (by decide) (by kernel_rfl) (by kernel_rfl) (fun _ _ _ h => h) (wn_none rfl) hSS (yl_loadAt hF rfl rfl ag3 (fun _ h => rd_cell0 (enc := encI) (Sat.rdRo h 0 rfl) encI_len hx488 rfl rfl)) ?_
        clear hF; intro a hF
        refine ha_yl 5 hF rfl rfl rfl (by kernel_rfl) (by kernel_rfl) (by kernel_rfl) (by decide) (fun _ _ _ h => h) (wn_none rfl) (.inr hSS) (yl_bin hF rfl rfl rfl rfl (fun _ => run_shr (c := 3) (d := 8) (by decide) (by decide))) ?_
        clear hF; intro a hF
        refine ha_ld 11 hF rfl rfl rfl (by kernel_rfl) (by kernel_rfl) (by kernel_rfl) (by decide) (by kernel_rfl) (by kernel_rfl) (fun _ _ _ h => h) (wn_none rfl) hSS (yl_loadAt hF rfl rfl ag3 (fun _ h => rd_cell0 (enc := encI) (Sat.rdRo h 0 rfl) encI_len hx488 rfl rfl)) ?_
        clear hF; intro a hF
        refine ha_yl 12 hF rfl rfl rfl (by kernel_rfl) (by kernel_rfl) (by kernel_rfl) (by decide) (fun _ _ _ h => h) (wn_none rfl) (.inr hSS) (yl_bin hF rfl rfl rfl rfl (fun _ => run_shr (c := 5) (d := 32) (by decide) (by decide))) ?_
        clear hF; intro a hF
        refine ha_ld 17 hF rfl rfl rfl (by kernel_rfl) (by kernel_rfl) (by kernel_rfl) (by decide) (by kernel_rfl) (by kernel_rfl) (fun _ _ _ h => h) (wn_none rfl) hSS (yl_loadAt hF rfl rfl ag3 (fun _ h => rd_cell0 (enc := encI) (Sat.rdRo h 0 rfl) encI_len hx488 rfl rfl)) ?_
        clear hF; intro a hF
        refine ha_yl 18 hF rfl rfl rfl (by kernel_rfl) (by kernel_rfl) (by kernel_rfl) (by decide) (fun _ _ _ h => h) (wn_none rfl) (.inr hSS) (yl_bin hF rfl rfl rfl rfl (fun _ => run_shr (c := 10) (d := 1024) (by decide) (by decide))) ?_
        clear hF; intro a hF
        refine ha_ld 23 hF rfl rfl rfl (by kernel_rfl) (by kernel_rfl) (by kernel_rfl) (by decide) (by kernel_rfl) (by kernel_rfl) (fun _ _ _ h => h) (wn_none rfl) hSS (yl_loadAt hF rfl rfl ag3 (fun _ h => rd_cell0 (enc := encI) (Sat.rdRo h 0 rfl) encI_len hx488 rfl rfl)) ?_
        clear hF; intro a hF
        refine ha_yl 24 hF rfl rfl rfl (by kernel_rfl) (by kernel_rfl) (by kernel_rfl) (by decide) (fun _ _ _ h => h) (wn_none rfl) (.inr hSS) (yl_bin hF rfl rfl rfl rfl (fun _ => run_shr (c := 13) (d := 8192) (by decide) (by decide))) ?_
        clear hF; intro a hF
        refine ha_all (rs := [6, 28]) (by kernel_rfl) (by simp) ?_
        refine List.forall_mem_cons.2 ⟨?_, List.forall_mem_cons.2 ⟨?_, (fun _ h => by cases h)⟩⟩
        · skip
          have hr491 := rnd_bounds (((x488) / 8)) (3 : Int) (by omega)
          refine ha_op 6 rfl (wn_none rfl) (wp_call (vs := [_, _]) hF rfl rfl rfl rfl cf11 (round_any (((x488) / 8)) (3 : Int) _ (by omega)) ?_)
          clear hF; rintro _ w ⟨rfl, hS1⟩ a hF
          replace hS := hS.callB hS1 rfl; clear hS1
          replace hSS := hS.sub [2] (by decide) rfl (by simp)
          refine ⟨.inr hSS, ?_⟩
          refine ha_yl 7 hF rfl rfl rfl (by kernel_rfl) (by kernel_rfl) (by kernel_rfl) (by decide) (fun _ _ _ h => h) (wn_none rfl) (.inr hSS) (yl_bin hF rfl rfl rfl rfl (fun _ => run_add (by refine ⟨?_, ?_⟩ <;> omega))) ?_
          clear hF; intro a hF
          refine ha_all (rs := [13, 28]) (by kernel_rfl) (by simp) ?_
          refine List.forall_mem_cons.2 ⟨?_, List.forall_mem_cons.2 ⟨?_, (fun _ h => by cases h)⟩⟩
          · skip
            have hr492 := rnd_bounds (((x488) / 32)) (20 : Int) (by omega)
            refine ha_op 13 rfl (wn_none rfl) (wp_call (vs := [_, _]) hF rfl rfl rfl rfl cf11 (round_any (((x488) / 32)) (20 : Int) _ (by omega)) ?_)
            clear hF; rintro _ w ⟨rfl, hS1⟩ a hF
            replace hS := hS.callB hS1 rfl; clear hS1
            replace hSS := hS.sub [2] (by decide) rfl (by simp)
            refine ⟨.inr hSS, ?_⟩
            refine ha_all (rs := [19, 28]) (by kernel_rfl) (by simp) ?_
            refine List.forall_mem_cons.2 ⟨?_, List.forall_mem_cons.2 ⟨?_, (fun _ h => by cases h)⟩⟩
            · skip
              have hr493 := rnd_bounds (((x488) / 1024)) (5 : Int) (by omega)
              refine ha_op 19 rfl (wn_none rfl) (wp_call (vs := [_, _]) hF rfl rfl rfl rfl cf11 (round_any (((x488) / 1024)) (5 : Int) _ (by omega)) ?_)
              clear hF; rintro _ w ⟨rfl, hS1⟩ a hF
              replace hS := hS.callB hS1 rfl; clear hS1
              replace hSS := hS.sub [2] (by decide) rfl (by simp)
              refine ⟨.inr hSS, ?_⟩
              refine ha_all (rs := [25, 28]) (by kernel_rfl) (by simp) ?_
              refine List.forall_mem_cons.2 ⟨?_, List.forall_mem_cons.2 ⟨?_, (fun _ h => by cases h)⟩⟩
              · skip
                refine ha_op 25 rfl (wn_none rfl) (wp_call (vs := [_]) hF rfl rfl rfl rfl cf12 (rule_any (((x488) / 8192)) _) ?_)
                clear hF; rintro _ w ⟨k494, f495, l496, s497, t498, er499, dn500, hf501, dl502, rfl, hb503, hb504, hb505, hb506, hb507, hb508, hb509, hb510, hS1⟩ a hF
                replace hS := hS.callB hS1 rfl; clear hS1
                replace hSS := hS.sub [2] (by decide) rfl (by simp)
                refine ⟨.inr hSS, ?_⟩
                refine ha_yl 26 hF rfl rfl rfl (by kernel_rfl) (by kernel_rfl) (by kernel_rfl) (by decide) (fun _ _ _ h => h) (wn_none rfl) (.inr hSS) (yl_field hF rfl rfl (fun w => by kernel_rfl : ∀ w, (Instr.field 36 (.agg #[.int .i64 (k494), .int .i64 (f495), .int .i64 (l496), .int .i64 (s497), .int .i64 (t498), .int .i64 (er499), .int .i64 (dn500), .bool hf501, .int .i64 (dl502)]) 5).run Try.prog w = .ok (.agg #[.int .i64 (er499), .int .i64 (dn500), .bool hf501, .int .i64 (dl502)]) w)) ?_
                clear hF; intro a hF
                refine ha_yl 27 hF rfl rfl rfl (by kernel_rfl) (by kernel_rfl) (by kernel_rfl) (by decide) (fun _ _ _ h => h) (wn_none rfl) (.inr hSS) (yl_build (parts := [(0, .tmp 42), (1, .tmp 49), (2, .tmp 55), (3, .tmp 61), (8, .tmp 68)]) (vs := [(0, _), (1, _), (2, _), (3, _), (8, _)]) (cs := [_, _, _, _, _, _, _, _, _, _, _, _]) hF bd39 rfl rfl rfl rfl) ?_
                clear hF; intro a hF
                refine ha_one 28 (by kernel_rfl) rfl (wn_none rfl) (wp_alloc (cs := #[_, _, _, _, _, _, _, _, _, _, _, _]) hF hS rfl rfl rfl zr39 rfl ?_)
                clear hF hS; intro a w g511 hF hS
                replace hSS := hS.sub [3] (by decide) rfl (by simp)
                refine ⟨.inr hSS, ?_⟩
                refine ha_one 29 (by kernel_rfl) rfl (wn_none rfl) (wp_store (cs' := #[_, _, _, _, _, _, _, _, _, _, _, _]) hF hS rfl rfl rfl rfl 0 rfl sz39 (by simp [Value.cells, Value.oneCell']) (by simp [Value.cells]) rfl ?_)
                clear hF hS; intro a w hF hS
                replace hSS := hS.sub [3] (by decide) rfl (by simp)
                refine ⟨.inr hSS, ?_⟩
                refine ha_done (by kernel_rfl) ?_ _
                refine then_n ?_
                refine c_seq ?_
                refine c_region ?_
                refine seq_yl hF (wn_none rfl) rfl rfl (yl_loadK (rs := [_, _, _, _]) (fun _ h => h ▸ hS) hF rfl rfl 1 rfl ag25 sz25 rfl rfl) ?_
                clear hF; intro a hF
                refine seq_yl hF (wn_none rfl) rfl rfl (yl_loadK (rs := [_, _, _]) (fun _ h => h ▸ hS) hF rfl rfl 2 rfl ag27 sz27 rfl rfl) ?_
                clear hF; intro a hF
                refine seq_yl hF (wn_none rfl) rfl rfl (yl_move hF rfl rfl) ?_
                clear hF; intro a hF
                refine seq_yl hF (wn_none rfl) rfl rfl (yl_loadK (rs := [_, _, _, _, _, _, _, _, _, _, _, _]) (fun _ h => h ▸ hS) hF rfl rfl 0 rfl ag39 sz39 rfl rfl) ?_
                clear hF; intro a hF
                refine seq_wp (wn_none rfl) (wp_call (vs := [_, _, _, _]) hF rfl rfl rfl rfl cf13 (push_any (Qu.mk (Q.d) (Q.h) (Q.f) Q.L) (b474) (e475) (m476) (((now) + ((rnd (x488) (7 : Int))))) (E39.mk ((i : Nat) : Int) (((1 : Int) + ((rnd (((x488) / 8)) (3 : Int))))) ((rnd (((x488) / 32)) (20 : Int))) ((rnd (((x488) / 1024)) (5 : Int))) (⟨#[]⟩) false (0 : Int) (0 : Int) (er499) (dn500) hf501 (dl502)) _ _ (hS.rdRow 4 rfl) (by first | omega | (simp; done) | (simp; omega))) ?_)
                clear hF; rintro _ w ⟨d512, h513, f514, er515, v517, L516, rfl, hp518, hS1⟩ a hF
                replace hS := hS.callB hS1 rfl; clear hS1
                obtain ⟨Av517, cv517, rfl⟩ := hS.form 0 rfl
                refine seq_yl hF (wn_none rfl) rfl rfl (yl_move hF rfl rfl) ?_
                clear hF; intro a hF
                refine seq_yl hF (wn_none rfl) rfl rfl (yl_extract hF rfl rfl rfl) ?_
                clear hF; intro a hF
                refine seq_yl hF (wn_none rfl) rfl rfl (yl_extract hF rfl rfl rfl) ?_
                clear hF; intro a hF
                have hrun := push_run hp518 hpq0 (by omega) ⟨rfl, by (try dsimp only); omega, by (try dsimp only); omega, by (try dsimp only); omega, by (try dsimp only); omega⟩ (by omega) (by omega) (by omega) (by omega); dsimp only at hrun; rcases hrun with ⟨hfull, her⟩ | ⟨her, hroom, hdd, hlen, hpq, hhh, en, hLL, hlast, hcase⟩
                · skip
                  replace hF := fr_seti (b' := 3) hF (by assumption)
                  refine seq_wp (wn_none rfl) (wp_alloc (cs := #[_, _, _, _]) hF hS rfl rfl rfl zr25 rfl ?_)
                  clear hF hS; intro a w g519 hF hS
                  refine seq_wp (wn_none rfl) (wp_store (cs' := #[_, _, _, _]) hF hS rfl rfl rfl rfl 0 rfl sz25 (by simp [Value.cells, Value.oneCell']) (by simp [Value.cells]) rfl ?_)
                  clear hF hS; intro a w hF hS
                  refine seq_yl hF (wn_none rfl) rfl rfl (yl_assign hF rfl rfl) ?_
                  clear hF; intro a hF
                  refine wpList_nil ?_
                  refine then_n ?_
                  refine c_seq ?_
                  refine c_seq ?_
                  refine c_region ?_
                  refine seq_yl hF (wn_none rfl) rfl rfl (yl_fieldAddr hF rfl rfl (fun w => by kernel_rfl : ∀ w, (Instr.fieldAt 25 (.pointer (some ⟨g472, 0, none⟩)) 3).run Try.prog w = .ok (.pointer (some ⟨g472, 3, none⟩)) w)) ?_
                  clear hF; intro a hF
                  refine seq_yl hF (wn_none rfl) rfl rfl (yl_load (fun _ h => h ▸ hS) hF rfl rfl 3 rfl ag23 rfl) ?_
                  clear hF; intro a hF
                  refine seq_yl hF (wn_none rfl) rfl rfl (yl_len hF rfl rfl (fun _ => run_lenRd sl23 (hS.rdRow 6 rfl))) ?_
                  clear hF; intro a hF
                  refine seq_yl hF (wn_none rfl) rfl rfl (yl_fieldAddr hF rfl rfl (fun w => by kernel_rfl : ∀ w, (Instr.fieldAt 25 (.pointer (some ⟨g472, 0, none⟩)) 0).run Try.prog w = .ok (.pointer (some ⟨g472, 0, none⟩)) w)) ?_
                  clear hF; intro a hF
                  refine seq_yl hF (wn_none rfl) rfl rfl (yl_load (fun _ h => h ▸ hS) hF rfl rfl 3 rfl ag3 rfl) ?_
                  clear hF; intro a hF
                  refine seq_yl hF (wn_none rfl) rfl rfl (yl_bin hF rfl rfl rfl rfl (fun _ => run_geq)) ?_
                  clear hF; intro a hF
                  replace hF := fr_set (b' := true) hF (by first | (rw [decide_eq_true_eq]; omega) | (rw [decide_eq_false_iff_not]; omega))
                  refine wpList_nil ?_
                  refine then_n ?_
                  refine c_cond_t hF rfl ?_
                  refine c_seq ?_
                  refine c_seq ?_
                  refine c_region ?_
                  refine seq_yl hF (wn_none rfl) rfl rfl (yl_move hF rfl rfl) ?_
                  clear hF; intro a hF
                  refine seq_yl hF (wn_none rfl) rfl rfl (yl_bin hF rfl rfl rfl rfl (fun _ => run_neq)) ?_
                  clear hF; intro a hF
                  replace hF := fr_set (b' := false) hF (by decide)
                  refine wpList_nil ?_
                  refine then_n ?_
                  refine c_cond_f hF rfl ?_
                  refine wp_skip ?_
                  refine then_n ?_
                  refine wp_exit ?_
                  refine then_x ?_
                  refine inb_x ?_
                  refine then_n ?_
                  refine c_region ?_
                  refine seq_yl hF (wn_none rfl) rfl rfl (yl_move hF rfl rfl) ?_
                  clear hF; intro a hF
                  refine seq_yl hF (wn_none rfl) rfl rfl (yl_bin hF rfl rfl rfl rfl (fun _ => run_inc (by omega))) ?_
                  clear hF; intro a hF
                  refine seq_yl hF (wn_none rfl) rfl rfl (yl_assign hF rfl rfl) ?_
                  clear hF; intro a hF
                  refine wpList_nil ?_
                  refine then_n ?_
                  exact ⟨_, (by omega), i + 1, (((now) + ((rnd (x488) (7 : Int))))), (last), Q, AvQ, cvQ, rfl, ⟨by omega, by omega, by omega, by (try dsimp only); omega, pq_mono hpq0, by (try dsimp only); omega⟩, hF.to [0, 4, 5, 7, 9, 10, 11] rfl, (hS.sub [3, 4, 5, 6] (by decide) (by first | rfl | simp) (by simp))⟩
                · skip
                  replace hF := fr_seti (b' := 0) hF (by assumption)
                  refine seq_wp (wn_none rfl) (wp_alloc (cs := #[_, _, _, _]) hF hS rfl rfl rfl zr25 rfl ?_)
                  clear hF hS; intro a w g520 hF hS
                  refine seq_wp (wn_none rfl) (wp_store (cs' := #[_, _, _, _]) hF hS rfl rfl rfl rfl 0 rfl sz25 (by simp [Value.cells, Value.oneCell']) (by simp [Value.cells]) rfl ?_)
                  clear hF hS; intro a w hF hS
                  refine seq_yl hF (wn_none rfl) rfl rfl (yl_assign hF rfl rfl) ?_
                  clear hF; intro a hF
                  refine wpList_nil ?_
                  refine then_n ?_
                  refine c_seq ?_
                  refine c_seq ?_
                  refine c_region ?_
                  refine seq_yl hF (wn_none rfl) rfl rfl (yl_fieldAddr hF rfl rfl (fun w => by kernel_rfl : ∀ w, (Instr.fieldAt 25 (.pointer (some ⟨g472, 0, none⟩)) 3).run Try.prog w = .ok (.pointer (some ⟨g472, 3, none⟩)) w)) ?_
                  clear hF; intro a hF
                  refine seq_yl hF (wn_none rfl) rfl rfl (yl_load (fun _ h => h ▸ hS) hF rfl rfl 3 rfl ag23 rfl) ?_
                  clear hF; intro a hF
                  refine seq_yl hF (wn_none rfl) rfl rfl (yl_len hF rfl rfl (fun _ => run_lenRd sl23 (hS.rdRow 6 rfl))) ?_
                  clear hF; intro a hF
                  refine seq_yl hF (wn_none rfl) rfl rfl (yl_fieldAddr hF rfl rfl (fun w => by kernel_rfl : ∀ w, (Instr.fieldAt 25 (.pointer (some ⟨g472, 0, none⟩)) 0).run Try.prog w = .ok (.pointer (some ⟨g472, 0, none⟩)) w)) ?_
                  clear hF; intro a hF
                  refine seq_yl hF (wn_none rfl) rfl rfl (yl_load (fun _ h => h ▸ hS) hF rfl rfl 3 rfl ag3 rfl) ?_
                  clear hF; intro a hF
                  refine seq_yl hF (wn_none rfl) rfl rfl (yl_bin hF rfl rfl rfl rfl (fun _ => run_geq)) ?_
                  clear hF; intro a hF
                  replace hF := fr_set (b' := false) hF (by first | (rw [decide_eq_true_eq]; omega) | (rw [decide_eq_false_iff_not]; omega))
                  refine wpList_nil ?_
                  refine then_n ?_
                  refine c_cond_f hF rfl ?_
                  refine wp_skip ?_
                  refine then_n ?_
                  refine c_seq ?_
                  refine c_seq ?_
                  refine c_region ?_
                  refine seq_yl hF (wn_none rfl) rfl rfl (yl_move hF rfl rfl) ?_
                  clear hF; intro a hF
                  refine seq_yl hF (wn_none rfl) rfl rfl (yl_bin hF rfl rfl rfl rfl (fun _ => run_neq)) ?_
                  clear hF; intro a hF
                  replace hF := fr_set (b' := false) hF (by decide)
                  refine seq_yl hF (wn_none rfl) rfl rfl (yl_move hF rfl rfl) ?_
                  clear hF; intro a hF
                  refine seq_yl hF (wn_t hF rfl rfl rfl rfl) rfl rfl (yl_fieldAddr hF rfl rfl (fun w => by kernel_rfl : ∀ w, (Instr.fieldAt 25 (.pointer (some ⟨g520, 0, none⟩)) 3).run Try.prog w = .ok (.pointer (some ⟨g520, 3, none⟩)) w)) ?_
                  clear hF; intro a hF
                  refine seq_yl hF (wn_t hF rfl rfl rfl rfl) rfl rfl (yl_load (fun _ h => h ▸ hS) hF rfl rfl 0 rfl ag23 rfl) ?_
                  clear hF; intro a hF
                  refine seq_yl hF (wn_t hF rfl rfl rfl rfl) rfl rfl (yl_len hF rfl rfl (fun _ => run_lenRd sl23 (hS.rdRow 1 rfl))) ?_
                  clear hF; intro a hF
                  refine seq_yl hF (wn_t hF rfl rfl rfl rfl) rfl rfl (yl_fieldAddr hF rfl rfl (fun w => by kernel_rfl : ∀ w, (Instr.fieldAt 25 (.pointer (some ⟨g472, 0, none⟩)) 3).run Try.prog w = .ok (.pointer (some ⟨g472, 3, none⟩)) w)) ?_
                  clear hF; intro a hF
                  refine seq_yl hF (wn_t hF rfl rfl rfl rfl) rfl rfl (yl_load (fun _ h => h ▸ hS) hF rfl rfl 3 rfl ag23 rfl) ?_
                  clear hF; intro a hF
                  refine seq_yl hF (wn_t hF rfl rfl rfl rfl) rfl rfl (yl_len hF rfl rfl (fun _ => run_lenRd sl23 (hS.rdRow 6 rfl))) ?_
                  clear hF; intro a hF
                  refine seq_yl hF (wn_t hF rfl rfl rfl rfl) rfl rfl (yl_bin hF rfl rfl rfl rfl (fun _ => run_inc (by omega))) ?_
                  clear hF; intro a hF
                  refine seq_yl hF (wn_t hF rfl rfl rfl rfl) rfl rfl (yl_bin hF rfl rfl rfl rfl (fun _ => run_neq)) ?_
                  clear hF; intro a hF
                  replace hF := fr_set (b' := false) hF (by rw [decide_eq_false_iff_not]; omega)
                  refine seq_yl hF (wn_none rfl) rfl rfl (yl_pick (u := _) (v := undef) hF rfl rfl (fun h => by cases h) (fun _ => rfl)) ?_
                  clear hF; intro a hF
                  refine wpList_nil ?_
                  refine then_n ?_
                  refine c_cond_f hF rfl ?_
                  refine wp_skip ?_
                  refine then_n ?_
                  refine c_seq ?_
                  refine c_region ?_
                  refine seq_yl hF (wn_none rfl) rfl rfl (yl_fieldAddr hF rfl rfl (fun w => by kernel_rfl : ∀ w, (Instr.fieldAt 25 (.pointer (some ⟨g520, 0, none⟩)) 3).run Try.prog w = .ok (.pointer (some ⟨g520, 3, none⟩)) w)) ?_
                  clear hF; intro a hF
                  refine seq_yl hF (wn_none rfl) rfl rfl (yl_load (fun _ h => h ▸ hS) hF rfl rfl 0 rfl ag23 rfl) ?_
                  clear hF; intro a hF
                  refine seq_yl hF (wn_none rfl) rfl rfl (yl_fieldAddr hF rfl rfl (fun w => by kernel_rfl : ∀ w, (Instr.fieldAt 25 (.pointer (some ⟨g520, 0, none⟩)) 3).run Try.prog w = .ok (.pointer (some ⟨g520, 3, none⟩)) w)) ?_
                  clear hF; intro a hF
                  refine seq_yl hF (wn_none rfl) rfl rfl (yl_load (fun _ h => h ▸ hS) hF rfl rfl 0 rfl ag23 rfl) ?_
                  clear hF; intro a hF
                  refine seq_yl hF (wn_none rfl) rfl rfl (yl_len hF rfl rfl (fun _ => run_lenRd sl23 (hS.rdRow 1 rfl))) ?_
                  clear hF; intro a hF
                  refine seq_yl hF (wn_none rfl) rfl rfl (yl_bin hF rfl rfl rfl rfl (fun _ => run_dec (c := 1) (by omega) (by omega))) ?_
                  clear hF; intro a hF
                  have hlt_hx521 : ((L516).length - 1) < (L516).length := by first | omega | (simp; done) | (simp; omega)
                  obtain ⟨ad522, rfl⟩ := rd_some (hS.rdRow 1 rfl) hlt_hx521
                  obtain ⟨x521, hx521⟩ := get_some hlt_hx521
                  refine seq_yl hF (wn_none rfl) rfl rfl (yl_indexAddr hF rfl rfl rfl (fun _ => run_idx' sl23 sz39 (hS.rdRow 1 rfl) hlt_hx521)) ?_
                  clear hF; intro a hF
                  refine seq_yl hF (wn_none rfl) rfl rfl (yl_loadEl (rs := [.int .i64 (x521.f0), .int .i64 (x521.f1), .int .i64 (x521.f2), .int .i64 (x521.f3), .string x521.f4, .bool x521.f5, .int .i64 (x521.f6), .int .i64 (x521.f7), .int .i64 (x521.f8), .int .i64 (x521.f9), .bool x521.f10, .int .i64 (x521.f11)]) hF rfl rfl ag39 sz39 rfl (fun _ h => rd_cells (enc := enc39) (by subst h; exact hS.rdRow 1 rfl) enc39_len hx521)) ?_
                  clear hF; intro a hF
                  refine seq_wp (wn_none rfl) (wp_alloc (cs := #[_, _, _, _, _, _, _, _, _, _, _, _]) hF hS rfl rfl rfl zr39 rfl ?_)
                  clear hF hS; intro a w g523 hF hS
                  refine seq_wp (wn_none rfl) (wp_store (cs' := #[_, _, _, _, _, _, _, _, _, _, _, _]) hF hS rfl rfl rfl rfl 0 rfl sz39 (by simp [Value.cells, Value.oneCell']) (by simp [Value.cells]) rfl ?_)
                  clear hF hS; intro a w hF hS
                  refine wpList_nil ?_
                  refine then_n ?_
                  refine c_seq ?_
                  refine c_seq ?_
                  refine c_region ?_
                  refine seq_yl hF (wn_none rfl) rfl rfl (yl_fieldAddr hF rfl rfl (fun w => by kernel_rfl : ∀ w, (Instr.fieldAt 39 (.pointer (some ⟨g523, 0, none⟩)) 6).run Try.prog w = .ok (.pointer (some ⟨g523, 6, none⟩)) w)) ?_
                  clear hF; intro a hF
                  have hxe := Option.some.inj (hx521.symm.trans (show L516[((L516).length - 1)]? = _ by rw [show ((L516).length - 1) = Q.L.length by omega]; exact hlast))
                  have hx6 : x521.f6 = max (((now) + ((rnd (x488) (7 : Int))))) Q.f := by rw [hxe]; rfl
                  have hx7 : x521.f7 = en := by rw [hxe]; rfl
                  refine seq_yl hF (wn_none rfl) rfl rfl (yl_load (fun _ h => h ▸ hS) hF rfl rfl 0 rfl ag3 rfl) ?_
                  clear hF; intro a hF
                  refine seq_yl hF (wn_none rfl) rfl rfl (yl_move hF rfl rfl) ?_
                  clear hF; intro a hF
                  refine seq_yl hF (wn_none rfl) rfl rfl (yl_move hF rfl rfl) ?_
                  clear hF; intro a hF
                  refine seq_yl hF (wn_none rfl) rfl rfl (yl_max2 hF rfl rfl rfl) ?_
                  clear hF; intro a hF
                  refine seq_yl hF (wn_none rfl) rfl rfl (yl_bin hF rfl rfl rfl rfl (fun _ => run_neq)) ?_
                  clear hF; intro a hF
                  replace hF := fr_set (b' := false) hF (by rw [decide_eq_false_iff_not]; omega)
                  refine wpList_nil ?_
                  refine then_n ?_
                  refine c_cond_f hF rfl ?_
                  refine wp_skip ?_
                  refine then_n ?_
                  refine c_seq ?_
                  refine c_seq ?_
                  refine c_region ?_
                  refine seq_yl hF (wn_none rfl) rfl rfl (yl_fieldAddr hF rfl rfl (fun w => by kernel_rfl : ∀ w, (Instr.fieldAt 39 (.pointer (some ⟨g511, 0, none⟩)) 8).run Try.prog w = .ok (.pointer (some ⟨g511, 8, none⟩)) w)) ?_
                  clear hF; intro a hF
                  refine seq_yl hF (wn_none rfl) rfl rfl (yl_fieldAddr hF rfl rfl (fun w => by kernel_rfl : ∀ w, (Instr.fieldAt 34 (.pointer (some ⟨g511, 8, none⟩)) 0).run Try.prog w = .ok (.pointer (some ⟨g511, 8, none⟩)) w)) ?_
                  clear hF; intro a hF
                  refine seq_yl hF (wn_none rfl) rfl rfl (yl_load (fun _ h => h ▸ hS) hF rfl rfl 3 rfl ag32 rfl) ?_
                  clear hF; intro a hF
                  refine seq_yl hF (wn_none rfl) rfl rfl (yl_bin hF rfl rfl rfl rfl (fun _ => run_eql)) ?_
                  clear hF; intro a hF
                  refine wpList_nil ?_
                  refine then_n ?_
                  refine c_cond hF rfl (fun hc524 => ?_) (fun hc524 => ?_)
                  · first | (replace hc524 := of_decide_eq_true hc524) | (replace hc524 := of_decide_eq_false (bnot_t hc524)) | (subst hc524) | (replace hc524 := bnot_t hc524; subst hc524) | (replace hc524 := bnot_t hc524) | skip
                    refine c_seq ?_
                    refine c_region ?_
                    refine seq_yl hF (wn_none rfl) rfl rfl (yl_fieldAddr hF rfl rfl (fun w => by kernel_rfl : ∀ w, (Instr.fieldAt 39 (.pointer (some ⟨g523, 0, none⟩)) 7).run Try.prog w = .ok (.pointer (some ⟨g523, 7, none⟩)) w)) ?_
                    clear hF; intro a hF
                    refine seq_yl hF (wn_none rfl) rfl rfl (yl_load (fun _ h => h ▸ hS) hF rfl rfl 0 rfl ag3 rfl) ?_
                    clear hF; intro a hF
                    refine seq_yl hF (wn_none rfl) rfl rfl (yl_bin hF rfl rfl rfl rfl (fun _ => run_neq)) ?_
                    clear hF; intro a hF
                    replace hF := fr_set (b' := false) hF (by rw [decide_eq_false_iff_not]; omega)
                    refine seq_yl hF (wn_none rfl) rfl rfl (yl_move hF rfl rfl) ?_
                    clear hF; intro a hF
                    refine seq_yl hF (wn_t hF rfl rfl rfl rfl) rfl rfl (yl_fieldAddr hF rfl rfl (fun w => by kernel_rfl : ∀ w, (Instr.fieldAt 25 (.pointer (some ⟨g520, 0, none⟩)) 2).run Try.prog w = .ok (.pointer (some ⟨g520, 2, none⟩)) w)) ?_
                    clear hF; intro a hF
                    refine seq_yl hF (wn_t hF rfl rfl rfl rfl) rfl rfl (yl_load (fun _ h => h ▸ hS) hF rfl rfl 1 rfl ag3 rfl) ?_
                    clear hF; intro a hF
                    refine seq_yl hF (wn_t hF rfl rfl rfl rfl) rfl rfl (yl_fieldAddr hF rfl rfl (fun w => by kernel_rfl : ∀ w, (Instr.fieldAt 25 (.pointer (some ⟨g472, 0, none⟩)) 2).run Try.prog w = .ok (.pointer (some ⟨g472, 2, none⟩)) w)) ?_
                    clear hF; intro a hF
                    refine seq_yl hF (wn_t hF rfl rfl rfl rfl) rfl rfl (yl_load (fun _ h => h ▸ hS) hF rfl rfl 4 rfl ag3 rfl) ?_
                    clear hF; intro a hF
                    refine seq_yl hF (wn_t hF rfl rfl rfl rfl) rfl rfl (yl_bin hF rfl rfl rfl rfl (fun _ => run_neq)) ?_
                    clear hF; intro a hF
                    replace hF := fr_set (b' := false) hF (by rw [decide_eq_false_iff_not]; omega)
                    refine seq_yl hF (wn_none rfl) rfl rfl (yl_pick (u := _) (v := undef) hF rfl rfl (fun h => by cases h) (fun _ => rfl)) ?_
                    clear hF; intro a hF
                    refine wpList_nil ?_
                    refine then_n ?_
                    refine c_cond_f hF rfl ?_
                    refine wp_skip ?_
                    refine then_n ?_
                    refine c_region ?_
                    refine seq_yl hF (wn_none rfl) rfl rfl (yl_loadK (rs := [_, _, _, _]) (fun _ h => h ▸ hS) hF rfl rfl 1 rfl ag25 sz25 rfl rfl) ?_
                    clear hF; intro a hF
                    refine seq_wp (wn_none rfl) (wp_store (cs' := #[_, _, _, _]) hF hS rfl rfl rfl rfl 4 rfl sz25 (by simp [Value.cells, Value.oneCell']) (by simp [Value.cells]) rfl ?_)
                    clear hF hS; intro a w hF hS
                    refine wpList_nil ?_
                    refine inb_n ?_
                    refine then_n ?_
                    refine c_region ?_
                    refine seq_yl hF (wn_none rfl) rfl rfl (yl_move hF rfl rfl) ?_
                    clear hF; intro a hF
                    refine seq_yl hF (wn_none rfl) rfl rfl (yl_bin hF rfl rfl rfl rfl (fun _ => run_inc (by omega))) ?_
                    clear hF; intro a hF
                    refine seq_yl hF (wn_none rfl) rfl rfl (yl_assign hF rfl rfl) ?_
                    clear hF; intro a hF
                    refine wpList_nil ?_
                    refine then_n ?_
                    exact ⟨_, (by omega), i + 1, (((now) + ((rnd (x488) (7 : Int))))), (last), (Qu.mk (d512) (h513) (f514) L516), (some ad522), cv517, rfl, ⟨by omega, by omega, by omega, by (try dsimp only); omega, hpq, by (try dsimp only); omega⟩, hF.to [0, 4, 5, 7, 9, 10, 11] rfl, (hS.sub [4, 5, 6, 2] (by decide) (by first | rfl | simp) (by simp))⟩
                  · first | (replace hc524 := of_decide_eq_false hc524) | (replace hc524 := of_decide_eq_true (bnot_f hc524)) | (subst hc524) | (replace hc524 := bnot_f hc524; subst hc524) | (replace hc524 := bnot_f hc524) | skip
                    refine c_seq ?_
                    refine c_region ?_
                    refine seq_yl hF (wn_none rfl) rfl rfl (yl_fieldAddr hF rfl rfl (fun w => by kernel_rfl : ∀ w, (Instr.fieldAt 39 (.pointer (some ⟨g523, 0, none⟩)) 7).run Try.prog w = .ok (.pointer (some ⟨g523, 7, none⟩)) w)) ?_
                    clear hF; intro a hF
                    refine seq_yl hF (wn_none rfl) rfl rfl (yl_load (fun _ h => h ▸ hS) hF rfl rfl 0 rfl ag3 rfl) ?_
                    clear hF; intro a hF
                    refine seq_yl hF (wn_none rfl) rfl rfl (yl_fieldAddr hF rfl rfl (fun w => by kernel_rfl : ∀ w, (Instr.fieldAt 39 (.pointer (some ⟨g523, 0, none⟩)) 6).run Try.prog w = .ok (.pointer (some ⟨g523, 6, none⟩)) w)) ?_
                    clear hF; intro a hF
                    refine seq_yl hF (wn_none rfl) rfl rfl (yl_load (fun _ h => h ▸ hS) hF rfl rfl 0 rfl ag3 rfl) ?_
                    clear hF; intro a hF
                    refine seq_yl hF (wn_none rfl) rfl rfl (yl_bin hF rfl rfl rfl rfl (fun _ => run_leq)) ?_
                    clear hF; intro a hF
                    replace hF := fr_set (b' := false) hF (by rw [decide_eq_false_iff_not]; omega)
                    refine seq_yl hF (wn_none rfl) rfl rfl (yl_move hF rfl rfl) ?_
                    clear hF; intro a hF
                    refine seq_yl hF (wn_t hF rfl rfl rfl rfl) rfl rfl (yl_fieldAddr hF rfl rfl (fun w => by kernel_rfl : ∀ w, (Instr.fieldAt 25 (.pointer (some ⟨g520, 0, none⟩)) 2).run Try.prog w = .ok (.pointer (some ⟨g520, 2, none⟩)) w)) ?_
                    clear hF; intro a hF
                    refine seq_yl hF (wn_t hF rfl rfl rfl rfl) rfl rfl (yl_load (fun _ h => h ▸ hS) hF rfl rfl 1 rfl ag3 rfl) ?_
                    clear hF; intro a hF
                    refine seq_yl hF (wn_t hF rfl rfl rfl rfl) rfl rfl (yl_fieldAddr hF rfl rfl (fun w => by kernel_rfl : ∀ w, (Instr.fieldAt 39 (.pointer (some ⟨g523, 0, none⟩)) 7).run Try.prog w = .ok (.pointer (some ⟨g523, 7, none⟩)) w)) ?_
                    clear hF; intro a hF
                    refine seq_yl hF (wn_t hF rfl rfl rfl rfl) rfl rfl (yl_load (fun _ h => h ▸ hS) hF rfl rfl 0 rfl ag3 rfl) ?_
                    clear hF; intro a hF
                    refine seq_yl hF (wn_t hF rfl rfl rfl rfl) rfl rfl (yl_bin hF rfl rfl rfl rfl (fun _ => run_neq)) ?_
                    clear hF; intro a hF
                    replace hF := fr_set (b' := false) hF (by rw [decide_eq_false_iff_not]; omega)
                    refine seq_yl hF (wn_none rfl) rfl rfl (yl_pick (u := _) (v := undef) hF rfl rfl (fun h => by cases h) (fun _ => rfl)) ?_
                    clear hF; intro a hF
                    refine wpList_nil ?_
                    refine then_n ?_
                    refine c_cond_f hF rfl ?_
                    refine c_region ?_
                    refine seq_yl hF (wn_none rfl) rfl rfl (yl_fieldAddr hF rfl rfl (fun w => by kernel_rfl : ∀ w, (Instr.fieldAt 39 (.pointer (some ⟨g523, 0, none⟩)) 7).run Try.prog w = .ok (.pointer (some ⟨g523, 7, none⟩)) w)) ?_
                    clear hF; intro a hF
                    refine seq_yl hF (wn_none rfl) rfl rfl (yl_load (fun _ h => h ▸ hS) hF rfl rfl 0 rfl ag3 rfl) ?_
                    clear hF; intro a hF
                    refine seq_yl hF (wn_none rfl) rfl rfl (yl_assign hF rfl rfl) ?_
                    clear hF; intro a hF
                    refine wpList_nil ?_
                    refine then_n ?_
                    refine c_region ?_
                    refine seq_yl hF (wn_none rfl) rfl rfl (yl_loadK (rs := [_, _, _, _]) (fun _ h => h ▸ hS) hF rfl rfl 1 rfl ag25 sz25 rfl rfl) ?_
                    clear hF; intro a hF
                    refine seq_wp (wn_none rfl) (wp_store (cs' := #[_, _, _, _]) hF hS rfl rfl rfl rfl 4 rfl sz25 (by simp [Value.cells, Value.oneCell']) (by simp [Value.cells]) rfl ?_)
                    clear hF hS; intro a w hF hS
                    refine wpList_nil ?_
                    refine inb_n ?_
                    refine then_n ?_
                    refine c_region ?_
                    refine seq_yl hF (wn_none rfl) rfl rfl (yl_move hF rfl rfl) ?_
                    clear hF; intro a hF
                    refine seq_yl hF (wn_none rfl) rfl rfl (yl_bin hF rfl rfl rfl rfl (fun _ => run_inc (by omega))) ?_
                    clear hF; intro a hF
                    refine seq_yl hF (wn_none rfl) rfl rfl (yl_assign hF rfl rfl) ?_
                    clear hF; intro a hF
                    refine wpList_nil ?_
                    refine then_n ?_
                    exact ⟨_, (by omega), i + 1, (((now) + ((rnd (x488) (7 : Int))))), (x521.f7), (Qu.mk (d512) (h513) (f514) L516), (some ad522), cv517, rfl, ⟨by omega, by omega, by omega, by (try dsimp only); omega, hpq, by (try dsimp only); omega⟩, hF.to [0, 4, 5, 7, 9, 10, 11] rfl, (hS.sub [4, 5, 6, 2] (by decide) (by first | rfl | simp) (by simp))⟩
              · skip
                refine ha_op 28 rfl (wn_none rfl) (wp_alloc (cs := #[_, _, _, _, _, _, _, _, _, _, _, _]) hF hS rfl rfl rfl zr39 rfl ?_)
                clear hF hS; intro a w g525 hF hS
                replace hSS := hS.sub [3] (by decide) rfl (by simp)
                refine ⟨.inr hSS, ?_⟩
                refine ha_one 25 (by kernel_rfl) rfl (wn_none rfl) (wp_call (vs := [_]) hF rfl rfl rfl rfl cf12 (rule_any (((x488) / 8192)) _) ?_)
                clear hF; rintro _ w ⟨k526, f527, l528, s529, t530, er531, dn532, hf533, dl534, rfl, hb535, hb536, hb537, hb538, hb539, hb540, hb541, hb542, hS1⟩ a hF
                replace hS := hS.callB hS1 rfl; clear hS1
                replace hSS := hS.sub [3] (by decide) rfl (by simp)
                refine ⟨.inr hSS, ?_⟩
                refine ha_yl 26 hF rfl rfl rfl (by kernel_rfl) (by kernel_rfl) (by kernel_rfl) (by decide) (fun _ _ _ h => h) (wn_none rfl) (.inr hSS) (yl_field hF rfl rfl (fun w => by kernel_rfl : ∀ w, (Instr.field 36 (.agg #[.int .i64 (k526), .int .i64 (f527), .int .i64 (l528), .int .i64 (s529), .int .i64 (t530), .int .i64 (er531), .int .i64 (dn532), .bool hf533, .int .i64 (dl534)]) 5).run Try.prog w = .ok (.agg #[.int .i64 (er531), .int .i64 (dn532), .bool hf533, .int .i64 (dl534)]) w)) ?_
                clear hF; intro a hF
                refine ha_yl 27 hF rfl rfl rfl (by kernel_rfl) (by kernel_rfl) (by kernel_rfl) (by decide) (fun _ _ _ h => h) (wn_none rfl) (.inr hSS) (yl_build (parts := [(0, .tmp 42), (1, .tmp 49), (2, .tmp 55), (3, .tmp 61), (8, .tmp 68)]) (vs := [(0, _), (1, _), (2, _), (3, _), (8, _)]) (cs := [_, _, _, _, _, _, _, _, _, _, _, _]) hF bd39 rfl rfl rfl rfl) ?_
                clear hF; intro a hF
                refine ha_one 29 (by kernel_rfl) rfl (wn_none rfl) (wp_store (cs' := #[_, _, _, _, _, _, _, _, _, _, _, _]) hF hS rfl rfl rfl rfl 0 rfl sz39 (by simp [Value.cells, Value.oneCell']) (by simp [Value.cells]) rfl ?_)
                clear hF hS; intro a w hF hS
                replace hSS := hS.sub [3] (by decide) rfl (by simp)
                refine ⟨.inr hSS, ?_⟩
                refine ha_done (by kernel_rfl) ?_ _
                refine then_n ?_
                refine c_seq ?_
                refine c_region ?_
                refine seq_yl hF (wn_none rfl) rfl rfl (yl_loadK (rs := [_, _, _, _]) (fun _ h => h ▸ hS) hF rfl rfl 1 rfl ag25 sz25 rfl rfl) ?_
                clear hF; intro a hF
                refine seq_yl hF (wn_none rfl) rfl rfl (yl_loadK (rs := [_, _, _]) (fun _ h => h ▸ hS) hF rfl rfl 2 rfl ag27 sz27 rfl rfl) ?_
                clear hF; intro a hF
                refine seq_yl hF (wn_none rfl) rfl rfl (yl_move hF rfl rfl) ?_
                clear hF; intro a hF
                refine seq_yl hF (wn_none rfl) rfl rfl (yl_loadK (rs := [_, _, _, _, _, _, _, _, _, _, _, _]) (fun _ h => h ▸ hS) hF rfl rfl 0 rfl ag39 sz39 rfl rfl) ?_
                clear hF; intro a hF
                refine seq_wp (wn_none rfl) (wp_call (vs := [_, _, _, _]) hF rfl rfl rfl rfl cf13 (push_any (Qu.mk (Q.d) (Q.h) (Q.f) Q.L) (b474) (e475) (m476) (((now) + ((rnd (x488) (7 : Int))))) (E39.mk ((i : Nat) : Int) (((1 : Int) + ((rnd (((x488) / 8)) (3 : Int))))) ((rnd (((x488) / 32)) (20 : Int))) ((rnd (((x488) / 1024)) (5 : Int))) (⟨#[]⟩) false (0 : Int) (0 : Int) (er531) (dn532) hf533 (dl534)) _ _ (hS.rdRow 4 rfl) (by first | omega | (simp; done) | (simp; omega))) ?_)
                clear hF; rintro _ w ⟨d543, h544, f545, er546, v548, L547, rfl, hp549, hS1⟩ a hF
                replace hS := hS.callB hS1 rfl; clear hS1
                obtain ⟨Av548, cv548, rfl⟩ := hS.form 0 rfl
                refine seq_yl hF (wn_none rfl) rfl rfl (yl_move hF rfl rfl) ?_
                clear hF; intro a hF
                refine seq_yl hF (wn_none rfl) rfl rfl (yl_extract hF rfl rfl rfl) ?_
                clear hF; intro a hF
                refine seq_yl hF (wn_none rfl) rfl rfl (yl_extract hF rfl rfl rfl) ?_
                clear hF; intro a hF
                have hrun := push_run hp549 hpq0 (by omega) ⟨rfl, by (try dsimp only); omega, by (try dsimp only); omega, by (try dsimp only); omega, by (try dsimp only); omega⟩ (by omega) (by omega) (by omega) (by omega); dsimp only at hrun; rcases hrun with ⟨hfull, her⟩ | ⟨her, hroom, hdd, hlen, hpq, hhh, en, hLL, hlast, hcase⟩
                · skip
                  replace hF := fr_seti (b' := 3) hF (by assumption)
                  refine seq_wp (wn_none rfl) (wp_alloc (cs := #[_, _, _, _]) hF hS rfl rfl rfl zr25 rfl ?_)
                  clear hF hS; intro a w g550 hF hS
                  refine seq_wp (wn_none rfl) (wp_store (cs' := #[_, _, _, _]) hF hS rfl rfl rfl rfl 0 rfl sz25 (by simp [Value.cells, Value.oneCell']) (by simp [Value.cells]) rfl ?_)
                  clear hF hS; intro a w hF hS
                  refine seq_yl hF (wn_none rfl) rfl rfl (yl_assign hF rfl rfl) ?_
                  clear hF; intro a hF
                  refine wpList_nil ?_
                  refine then_n ?_
                  refine c_seq ?_
                  refine c_seq ?_
                  refine c_region ?_
                  refine seq_yl hF (wn_none rfl) rfl rfl (yl_fieldAddr hF rfl rfl (fun w => by kernel_rfl : ∀ w, (Instr.fieldAt 25 (.pointer (some ⟨g472, 0, none⟩)) 3).run Try.prog w = .ok (.pointer (some ⟨g472, 3, none⟩)) w)) ?_
                  clear hF; intro a hF
                  refine seq_yl hF (wn_none rfl) rfl rfl (yl_load (fun _ h => h ▸ hS) hF rfl rfl 3 rfl ag23 rfl) ?_
                  clear hF; intro a hF
                  refine seq_yl hF (wn_none rfl) rfl rfl (yl_len hF rfl rfl (fun _ => run_lenRd sl23 (hS.rdRow 6 rfl))) ?_
                  clear hF; intro a hF
                  refine seq_yl hF (wn_none rfl) rfl rfl (yl_fieldAddr hF rfl rfl (fun w => by kernel_rfl : ∀ w, (Instr.fieldAt 25 (.pointer (some ⟨g472, 0, none⟩)) 0).run Try.prog w = .ok (.pointer (some ⟨g472, 0, none⟩)) w)) ?_
                  clear hF; intro a hF
                  refine seq_yl hF (wn_none rfl) rfl rfl (yl_load (fun _ h => h ▸ hS) hF rfl rfl 3 rfl ag3 rfl) ?_
                  clear hF; intro a hF
                  refine seq_yl hF (wn_none rfl) rfl rfl (yl_bin hF rfl rfl rfl rfl (fun _ => run_geq)) ?_
                  clear hF; intro a hF
                  replace hF := fr_set (b' := true) hF (by first | (rw [decide_eq_true_eq]; omega) | (rw [decide_eq_false_iff_not]; omega))
                  refine wpList_nil ?_
                  refine then_n ?_
                  refine c_cond_t hF rfl ?_
                  refine c_seq ?_
                  refine c_seq ?_
                  refine c_region ?_
                  refine seq_yl hF (wn_none rfl) rfl rfl (yl_move hF rfl rfl) ?_
                  clear hF; intro a hF
                  refine seq_yl hF (wn_none rfl) rfl rfl (yl_bin hF rfl rfl rfl rfl (fun _ => run_neq)) ?_
                  clear hF; intro a hF
                  replace hF := fr_set (b' := false) hF (by decide)
                  refine wpList_nil ?_
                  refine then_n ?_
                  refine c_cond_f hF rfl ?_
                  refine wp_skip ?_
                  refine then_n ?_
                  refine wp_exit ?_
                  refine then_x ?_
                  refine inb_x ?_
                  refine then_n ?_
                  refine c_region ?_
                  refine seq_yl hF (wn_none rfl) rfl rfl (yl_move hF rfl rfl) ?_
                  clear hF; intro a hF
                  refine seq_yl hF (wn_none rfl) rfl rfl (yl_bin hF rfl rfl rfl rfl (fun _ => run_inc (by omega))) ?_
                  clear hF; intro a hF
                  refine seq_yl hF (wn_none rfl) rfl rfl (yl_assign hF rfl rfl) ?_
                  clear hF; intro a hF
                  refine wpList_nil ?_
                  refine then_n ?_
                  exact ⟨_, (by omega), i + 1, (((now) + ((rnd (x488) (7 : Int))))), (last), Q, AvQ, cvQ, rfl, ⟨by omega, by omega, by omega, by (try dsimp only); omega, pq_mono hpq0, by (try dsimp only); omega⟩, hF.to [0, 4, 5, 7, 9, 10, 11] rfl, (hS.sub [3, 4, 5, 6] (by decide) (by first | rfl | simp) (by simp))⟩
                · skip
                  replace hF := fr_seti (b' := 0) hF (by assumption)
                  refine seq_wp (wn_none rfl) (wp_alloc (cs := #[_, _, _, _]) hF hS rfl rfl rfl zr25 rfl ?_)
                  clear hF hS; intro a w g551 hF hS
                  refine seq_wp (wn_none rfl) (wp_store (cs' := #[_, _, _, _]) hF hS rfl rfl rfl rfl 0 rfl sz25 (by simp [Value.cells, Value.oneCell']) (by simp [Value.cells]) rfl ?_)
                  clear hF hS; intro a w hF hS
                  refine seq_yl hF (wn_none rfl) rfl rfl (yl_assign hF rfl rfl) ?_
                  clear hF; intro a hF
                  refine wpList_nil ?_
                  refine then_n ?_
                  refine c_seq ?_
                  refine c_seq ?_
                  refine c_region ?_
                  refine seq_yl hF (wn_none rfl) rfl rfl (yl_fieldAddr hF rfl rfl (fun w => by kernel_rfl : ∀ w, (Instr.fieldAt 25 (.pointer (some ⟨g472, 0, none⟩)) 3).run Try.prog w = .ok (.pointer (some ⟨g472, 3, none⟩)) w)) ?_
                  clear hF; intro a hF
                  refine seq_yl hF (wn_none rfl) rfl rfl (yl_load (fun _ h => h ▸ hS) hF rfl rfl 3 rfl ag23 rfl) ?_
                  clear hF; intro a hF
                  refine seq_yl hF (wn_none rfl) rfl rfl (yl_len hF rfl rfl (fun _ => run_lenRd sl23 (hS.rdRow 6 rfl))) ?_
                  clear hF; intro a hF
                  refine seq_yl hF (wn_none rfl) rfl rfl (yl_fieldAddr hF rfl rfl (fun w => by kernel_rfl : ∀ w, (Instr.fieldAt 25 (.pointer (some ⟨g472, 0, none⟩)) 0).run Try.prog w = .ok (.pointer (some ⟨g472, 0, none⟩)) w)) ?_
                  clear hF; intro a hF
                  refine seq_yl hF (wn_none rfl) rfl rfl (yl_load (fun _ h => h ▸ hS) hF rfl rfl 3 rfl ag3 rfl) ?_
                  clear hF; intro a hF
                  refine seq_yl hF (wn_none rfl) rfl rfl (yl_bin hF rfl rfl rfl rfl (fun _ => run_geq)) ?_
                  clear hF; intro a hF
                  replace hF := fr_set (b' := false) hF (by first | (rw [decide_eq_true_eq]; omega) | (rw [decide_eq_false_iff_not]; omega))
                  refine wpList_nil ?_
                  refine then_n ?_
                  refine c_cond_f hF rfl ?_
                  refine wp_skip ?_
                  refine then_n ?_
                  refine c_seq ?_
                  refine c_seq ?_
                  refine c_region ?_
                  refine seq_yl hF (wn_none rfl) rfl rfl (yl_move hF rfl rfl) ?_
                  clear hF; intro a hF
                  refine seq_yl hF (wn_none rfl) rfl rfl (yl_bin hF rfl rfl rfl rfl (fun _ => run_neq)) ?_
                  clear hF; intro a hF
                  replace hF := fr_set (b' := false) hF (by decide)
                  refine seq_yl hF (wn_none rfl) rfl rfl (yl_move hF rfl rfl) ?_
                  clear hF; intro a hF
                  refine seq_yl hF (wn_t hF rfl rfl rfl rfl) rfl rfl (yl_fieldAddr hF rfl rfl (fun w => by kernel_rfl : ∀ w, (Instr.fieldAt 25 (.pointer (some ⟨g551, 0, none⟩)) 3).run Try.prog w = .ok (.pointer (some ⟨g551, 3, none⟩)) w)) ?_
                  clear hF; intro a hF
                  refine seq_yl hF (wn_t hF rfl rfl rfl rfl) rfl rfl (yl_load (fun _ h => h ▸ hS) hF rfl rfl 0 rfl ag23 rfl) ?_
                  clear hF; intro a hF
                  refine seq_yl hF (wn_t hF rfl rfl rfl rfl) rfl rfl (yl_len hF rfl rfl (fun _ => run_lenRd sl23 (hS.rdRow 1 rfl))) ?_
                  clear hF; intro a hF
                  refine seq_yl hF (wn_t hF rfl rfl rfl rfl) rfl rfl (yl_fieldAddr hF rfl rfl (fun w => by kernel_rfl : ∀ w, (Instr.fieldAt 25 (.pointer (some ⟨g472, 0, none⟩)) 3).run Try.prog w = .ok (.pointer (some ⟨g472, 3, none⟩)) w)) ?_
                  clear hF; intro a hF
                  refine seq_yl hF (wn_t hF rfl rfl rfl rfl) rfl rfl (yl_load (fun _ h => h ▸ hS) hF rfl rfl 3 rfl ag23 rfl) ?_
                  clear hF; intro a hF
                  refine seq_yl hF (wn_t hF rfl rfl rfl rfl) rfl rfl (yl_len hF rfl rfl (fun _ => run_lenRd sl23 (hS.rdRow 6 rfl))) ?_
                  clear hF; intro a hF
                  refine seq_yl hF (wn_t hF rfl rfl rfl rfl) rfl rfl (yl_bin hF rfl rfl rfl rfl (fun _ => run_inc (by omega))) ?_
                  clear hF; intro a hF
                  refine seq_yl hF (wn_t hF rfl rfl rfl rfl) rfl rfl (yl_bin hF rfl rfl rfl rfl (fun _ => run_neq)) ?_
                  clear hF; intro a hF
                  replace hF := fr_set (b' := false) hF (by rw [decide_eq_false_iff_not]; omega)
                  refine seq_yl hF (wn_none rfl) rfl rfl (yl_pick (u := _) (v := undef) hF rfl rfl (fun h => by cases h) (fun _ => rfl)) ?_
                  clear hF; intro a hF
                  refine wpList_nil ?_
                  refine then_n ?_
                  refine c_cond_f hF rfl ?_
                  refine wp_skip ?_
                  refine then_n ?_
                  refine c_seq ?_
                  refine c_region ?_
                  refine seq_yl hF (wn_none rfl) rfl rfl (yl_fieldAddr hF rfl rfl (fun w => by kernel_rfl : ∀ w, (Instr.fieldAt 25 (.pointer (some ⟨g551, 0, none⟩)) 3).run Try.prog w = .ok (.pointer (some ⟨g551, 3, none⟩)) w)) ?_
                  clear hF; intro a hF
                  refine seq_yl hF (wn_none rfl) rfl rfl (yl_load (fun _ h => h ▸ hS) hF rfl rfl 0 rfl ag23 rfl) ?_
                  clear hF; intro a hF
                  refine seq_yl hF (wn_none rfl) rfl rfl (yl_fieldAddr hF rfl rfl (fun w => by kernel_rfl : ∀ w, (Instr.fieldAt 25 (.pointer (some ⟨g551, 0, none⟩)) 3).run Try.prog w = .ok (.pointer (some ⟨g551, 3, none⟩)) w)) ?_
                  clear hF; intro a hF
                  refine seq_yl hF (wn_none rfl) rfl rfl (yl_load (fun _ h => h ▸ hS) hF rfl rfl 0 rfl ag23 rfl) ?_
                  clear hF; intro a hF
                  refine seq_yl hF (wn_none rfl) rfl rfl (yl_len hF rfl rfl (fun _ => run_lenRd sl23 (hS.rdRow 1 rfl))) ?_
                  clear hF; intro a hF
                  refine seq_yl hF (wn_none rfl) rfl rfl (yl_bin hF rfl rfl rfl rfl (fun _ => run_dec (c := 1) (by omega) (by omega))) ?_
                  clear hF; intro a hF
                  have hlt_hx552 : ((L547).length - 1) < (L547).length := by first | omega | (simp; done) | (simp; omega)
                  obtain ⟨ad553, rfl⟩ := rd_some (hS.rdRow 1 rfl) hlt_hx552
                  obtain ⟨x552, hx552⟩ := get_some hlt_hx552
                  refine seq_yl hF (wn_none rfl) rfl rfl (yl_indexAddr hF rfl rfl rfl (fun _ => run_idx' sl23 sz39 (hS.rdRow 1 rfl) hlt_hx552)) ?_
                  clear hF; intro a hF
                  refine seq_yl hF (wn_none rfl) rfl rfl (yl_loadEl (rs := [.int .i64 (x552.f0), .int .i64 (x552.f1), .int .i64 (x552.f2), .int .i64 (x552.f3), .string x552.f4, .bool x552.f5, .int .i64 (x552.f6), .int .i64 (x552.f7), .int .i64 (x552.f8), .int .i64 (x552.f9), .bool x552.f10, .int .i64 (x552.f11)]) hF rfl rfl ag39 sz39 rfl (fun _ h => rd_cells (enc := enc39) (by subst h; exact hS.rdRow 1 rfl) enc39_len hx552)) ?_
                  clear hF; intro a hF
                  refine seq_wp (wn_none rfl) (wp_alloc (cs := #[_, _, _, _, _, _, _, _, _, _, _, _]) hF hS rfl rfl rfl zr39 rfl ?_)
                  clear hF hS; intro a w g554 hF hS
                  refine seq_wp (wn_none rfl) (wp_store (cs' := #[_, _, _, _, _, _, _, _, _, _, _, _]) hF hS rfl rfl rfl rfl 0 rfl sz39 (by simp [Value.cells, Value.oneCell']) (by simp [Value.cells]) rfl ?_)
                  clear hF hS; intro a w hF hS
                  refine wpList_nil ?_
                  refine then_n ?_
                  refine c_seq ?_
                  refine c_seq ?_
                  refine c_region ?_
                  refine seq_yl hF (wn_none rfl) rfl rfl (yl_fieldAddr hF rfl rfl (fun w => by kernel_rfl : ∀ w, (Instr.fieldAt 39 (.pointer (some ⟨g554, 0, none⟩)) 6).run Try.prog w = .ok (.pointer (some ⟨g554, 6, none⟩)) w)) ?_
                  clear hF; intro a hF
                  have hxe := Option.some.inj (hx552.symm.trans (show L547[((L547).length - 1)]? = _ by rw [show ((L547).length - 1) = Q.L.length by omega]; exact hlast))
                  have hx6 : x552.f6 = max (((now) + ((rnd (x488) (7 : Int))))) Q.f := by rw [hxe]; rfl
                  have hx7 : x552.f7 = en := by rw [hxe]; rfl
                  refine seq_yl hF (wn_none rfl) rfl rfl (yl_load (fun _ h => h ▸ hS) hF rfl rfl 0 rfl ag3 rfl) ?_
                  clear hF; intro a hF
                  refine seq_yl hF (wn_none rfl) rfl rfl (yl_move hF rfl rfl) ?_
                  clear hF; intro a hF
                  refine seq_yl hF (wn_none rfl) rfl rfl (yl_move hF rfl rfl) ?_
                  clear hF; intro a hF
                  refine seq_yl hF (wn_none rfl) rfl rfl (yl_max2 hF rfl rfl rfl) ?_
                  clear hF; intro a hF
                  refine seq_yl hF (wn_none rfl) rfl rfl (yl_bin hF rfl rfl rfl rfl (fun _ => run_neq)) ?_
                  clear hF; intro a hF
                  replace hF := fr_set (b' := false) hF (by rw [decide_eq_false_iff_not]; omega)
                  refine wpList_nil ?_
                  refine then_n ?_
                  refine c_cond_f hF rfl ?_
                  refine wp_skip ?_
                  refine then_n ?_
                  refine c_seq ?_
                  refine c_seq ?_
                  refine c_region ?_
                  refine seq_yl hF (wn_none rfl) rfl rfl (yl_fieldAddr hF rfl rfl (fun w => by kernel_rfl : ∀ w, (Instr.fieldAt 39 (.pointer (some ⟨g525, 0, none⟩)) 8).run Try.prog w = .ok (.pointer (some ⟨g525, 8, none⟩)) w)) ?_
                  clear hF; intro a hF
                  refine seq_yl hF (wn_none rfl) rfl rfl (yl_fieldAddr hF rfl rfl (fun w => by kernel_rfl : ∀ w, (Instr.fieldAt 34 (.pointer (some ⟨g525, 8, none⟩)) 0).run Try.prog w = .ok (.pointer (some ⟨g525, 8, none⟩)) w)) ?_
                  clear hF; intro a hF
                  refine seq_yl hF (wn_none rfl) rfl rfl (yl_load (fun _ h => h ▸ hS) hF rfl rfl 3 rfl ag32 rfl) ?_
                  clear hF; intro a hF
                  refine seq_yl hF (wn_none rfl) rfl rfl (yl_bin hF rfl rfl rfl rfl (fun _ => run_eql)) ?_
                  clear hF; intro a hF
                  refine wpList_nil ?_
                  refine then_n ?_
                  refine c_cond hF rfl (fun hc555 => ?_) (fun hc555 => ?_)
                  · first | (replace hc555 := of_decide_eq_true hc555) | (replace hc555 := of_decide_eq_false (bnot_t hc555)) | (subst hc555) | (replace hc555 := bnot_t hc555; subst hc555) | (replace hc555 := bnot_t hc555) | skip
                    refine c_seq ?_
                    refine c_region ?_
                    refine seq_yl hF (wn_none rfl) rfl rfl (yl_fieldAddr hF rfl rfl (fun w => by kernel_rfl : ∀ w, (Instr.fieldAt 39 (.pointer (some ⟨g554, 0, none⟩)) 7).run Try.prog w = .ok (.pointer (some ⟨g554, 7, none⟩)) w)) ?_
                    clear hF; intro a hF
                    refine seq_yl hF (wn_none rfl) rfl rfl (yl_load (fun _ h => h ▸ hS) hF rfl rfl 0 rfl ag3 rfl) ?_
                    clear hF; intro a hF
                    refine seq_yl hF (wn_none rfl) rfl rfl (yl_bin hF rfl rfl rfl rfl (fun _ => run_neq)) ?_
                    clear hF; intro a hF
                    replace hF := fr_set (b' := false) hF (by rw [decide_eq_false_iff_not]; omega)
                    refine seq_yl hF (wn_none rfl) rfl rfl (yl_move hF rfl rfl) ?_
                    clear hF; intro a hF
                    refine seq_yl hF (wn_t hF rfl rfl rfl rfl) rfl rfl (yl_fieldAddr hF rfl rfl (fun w => by kernel_rfl : ∀ w, (Instr.fieldAt 25 (.pointer (some ⟨g551, 0, none⟩)) 2).run Try.prog w = .ok (.pointer (some ⟨g551, 2, none⟩)) w)) ?_
                    clear hF; intro a hF
                    refine seq_yl hF (wn_t hF rfl rfl rfl rfl) rfl rfl (yl_load (fun _ h => h ▸ hS) hF rfl rfl 1 rfl ag3 rfl) ?_
                    clear hF; intro a hF
                    refine seq_yl hF (wn_t hF rfl rfl rfl rfl) rfl rfl (yl_fieldAddr hF rfl rfl (fun w => by kernel_rfl : ∀ w, (Instr.fieldAt 25 (.pointer (some ⟨g472, 0, none⟩)) 2).run Try.prog w = .ok (.pointer (some ⟨g472, 2, none⟩)) w)) ?_
                    clear hF; intro a hF
                    refine seq_yl hF (wn_t hF rfl rfl rfl rfl) rfl rfl (yl_load (fun _ h => h ▸ hS) hF rfl rfl 4 rfl ag3 rfl) ?_
                    clear hF; intro a hF
                    refine seq_yl hF (wn_t hF rfl rfl rfl rfl) rfl rfl (yl_bin hF rfl rfl rfl rfl (fun _ => run_neq)) ?_
                    clear hF; intro a hF
                    replace hF := fr_set (b' := false) hF (by rw [decide_eq_false_iff_not]; omega)
                    refine seq_yl hF (wn_none rfl) rfl rfl (yl_pick (u := _) (v := undef) hF rfl rfl (fun h => by cases h) (fun _ => rfl)) ?_
                    clear hF; intro a hF
                    refine wpList_nil ?_
                    refine then_n ?_
                    refine c_cond_f hF rfl ?_
                    refine wp_skip ?_
                    refine then_n ?_
                    refine c_region ?_
                    refine seq_yl hF (wn_none rfl) rfl rfl (yl_loadK (rs := [_, _, _, _]) (fun _ h => h ▸ hS) hF rfl rfl 1 rfl ag25 sz25 rfl rfl) ?_
                    clear hF; intro a hF
                    refine seq_wp (wn_none rfl) (wp_store (cs' := #[_, _, _, _]) hF hS rfl rfl rfl rfl 4 rfl sz25 (by simp [Value.cells, Value.oneCell']) (by simp [Value.cells]) rfl ?_)
                    clear hF hS; intro a w hF hS
                    refine wpList_nil ?_
                    refine inb_n ?_
                    refine then_n ?_
                    refine c_region ?_
                    refine seq_yl hF (wn_none rfl) rfl rfl (yl_move hF rfl rfl) ?_
                    clear hF; intro a hF
                    refine seq_yl hF (wn_none rfl) rfl rfl (yl_bin hF rfl rfl rfl rfl (fun _ => run_inc (by omega))) ?_
                    clear hF; intro a hF
                    refine seq_yl hF (wn_none rfl) rfl rfl (yl_assign hF rfl rfl) ?_
                    clear hF; intro a hF
                    refine wpList_nil ?_
                    refine then_n ?_
                    exact ⟨_, (by omega), i + 1, (((now) + ((rnd (x488) (7 : Int))))), (last), (Qu.mk (d543) (h544) (f545) L547), (some ad553), cv548, rfl, ⟨by omega, by omega, by omega, by (try dsimp only); omega, hpq, by (try dsimp only); omega⟩, hF.to [0, 4, 5, 7, 9, 10, 11] rfl, (hS.sub [4, 5, 6, 2] (by decide) (by first | rfl | simp) (by simp))⟩
                  · first | (replace hc555 := of_decide_eq_false hc555) | (replace hc555 := of_decide_eq_true (bnot_f hc555)) | (subst hc555) | (replace hc555 := bnot_f hc555; subst hc555) | (replace hc555 := bnot_f hc555) | skip
                    refine c_seq ?_
                    refine c_region ?_
                    refine seq_yl hF (wn_none rfl) rfl rfl (yl_fieldAddr hF rfl rfl (fun w => by kernel_rfl : ∀ w, (Instr.fieldAt 39 (.pointer (some ⟨g554, 0, none⟩)) 7).run Try.prog w = .ok (.pointer (some ⟨g554, 7, none⟩)) w)) ?_
                    clear hF; intro a hF
                    refine seq_yl hF (wn_none rfl) rfl rfl (yl_load (fun _ h => h ▸ hS) hF rfl rfl 0 rfl ag3 rfl) ?_
                    clear hF; intro a hF
                    refine seq_yl hF (wn_none rfl) rfl rfl (yl_fieldAddr hF rfl rfl (fun w => by kernel_rfl : ∀ w, (Instr.fieldAt 39 (.pointer (some ⟨g554, 0, none⟩)) 6).run Try.prog w = .ok (.pointer (some ⟨g554, 6, none⟩)) w)) ?_
                    clear hF; intro a hF
                    refine seq_yl hF (wn_none rfl) rfl rfl (yl_load (fun _ h => h ▸ hS) hF rfl rfl 0 rfl ag3 rfl) ?_
                    clear hF; intro a hF
                    refine seq_yl hF (wn_none rfl) rfl rfl (yl_bin hF rfl rfl rfl rfl (fun _ => run_leq)) ?_
                    clear hF; intro a hF
                    replace hF := fr_set (b' := false) hF (by rw [decide_eq_false_iff_not]; omega)
                    refine seq_yl hF (wn_none rfl) rfl rfl (yl_move hF rfl rfl) ?_
                    clear hF; intro a hF
                    refine seq_yl hF (wn_t hF rfl rfl rfl rfl) rfl rfl (yl_fieldAddr hF rfl rfl (fun w => by kernel_rfl : ∀ w, (Instr.fieldAt 25 (.pointer (some ⟨g551, 0, none⟩)) 2).run Try.prog w = .ok (.pointer (some ⟨g551, 2, none⟩)) w)) ?_
                    clear hF; intro a hF
                    refine seq_yl hF (wn_t hF rfl rfl rfl rfl) rfl rfl (yl_load (fun _ h => h ▸ hS) hF rfl rfl 1 rfl ag3 rfl) ?_
                    clear hF; intro a hF
                    refine seq_yl hF (wn_t hF rfl rfl rfl rfl) rfl rfl (yl_fieldAddr hF rfl rfl (fun w => by kernel_rfl : ∀ w, (Instr.fieldAt 39 (.pointer (some ⟨g554, 0, none⟩)) 7).run Try.prog w = .ok (.pointer (some ⟨g554, 7, none⟩)) w)) ?_
                    clear hF; intro a hF
                    refine seq_yl hF (wn_t hF rfl rfl rfl rfl) rfl rfl (yl_load (fun _ h => h ▸ hS) hF rfl rfl 0 rfl ag3 rfl) ?_
                    clear hF; intro a hF
                    refine seq_yl hF (wn_t hF rfl rfl rfl rfl) rfl rfl (yl_bin hF rfl rfl rfl rfl (fun _ => run_neq)) ?_
                    clear hF; intro a hF
                    replace hF := fr_set (b' := false) hF (by rw [decide_eq_false_iff_not]; omega)
                    refine seq_yl hF (wn_none rfl) rfl rfl (yl_pick (u := _) (v := undef) hF rfl rfl (fun h => by cases h) (fun _ => rfl)) ?_
                    clear hF; intro a hF
                    refine wpList_nil ?_
                    refine then_n ?_
                    refine c_cond_f hF rfl ?_
                    refine c_region ?_
                    refine seq_yl hF (wn_none rfl) rfl rfl (yl_fieldAddr hF rfl rfl (fun w => by kernel_rfl : ∀ w, (Instr.fieldAt 39 (.pointer (some ⟨g554, 0, none⟩)) 7).run Try.prog w = .ok (.pointer (some ⟨g554, 7, none⟩)) w)) ?_
                    clear hF; intro a hF
                    refine seq_yl hF (wn_none rfl) rfl rfl (yl_load (fun _ h => h ▸ hS) hF rfl rfl 0 rfl ag3 rfl) ?_
                    clear hF; intro a hF
                    refine seq_yl hF (wn_none rfl) rfl rfl (yl_assign hF rfl rfl) ?_
                    clear hF; intro a hF
                    refine wpList_nil ?_
                    refine then_n ?_
                    refine c_region ?_
                    refine seq_yl hF (wn_none rfl) rfl rfl (yl_loadK (rs := [_, _, _, _]) (fun _ h => h ▸ hS) hF rfl rfl 1 rfl ag25 sz25 rfl rfl) ?_
                    clear hF; intro a hF
                    refine seq_wp (wn_none rfl) (wp_store (cs' := #[_, _, _, _]) hF hS rfl rfl rfl rfl 4 rfl sz25 (by simp [Value.cells, Value.oneCell']) (by simp [Value.cells]) rfl ?_)
                    clear hF hS; intro a w hF hS
                    refine wpList_nil ?_
                    refine inb_n ?_
                    refine then_n ?_
                    refine c_region ?_
                    refine seq_yl hF (wn_none rfl) rfl rfl (yl_move hF rfl rfl) ?_
                    clear hF; intro a hF
                    refine seq_yl hF (wn_none rfl) rfl rfl (yl_bin hF rfl rfl rfl rfl (fun _ => run_inc (by omega))) ?_
                    clear hF; intro a hF
                    refine seq_yl hF (wn_none rfl) rfl rfl (yl_assign hF rfl rfl) ?_
                    clear hF; intro a hF
                    refine wpList_nil ?_
                    refine then_n ?_
                    exact ⟨_, (by omega), i + 1, (((now) + ((rnd (x488) (7 : Int))))), (x552.f7), (Qu.mk (d543) (h544) (f545) L547), (some ad553), cv548, rfl, ⟨by omega, by omega, by omega, by (try dsimp only); omega, hpq, by (try dsimp only); omega⟩, hF.to [0, 4, 5, 7, 9, 10, 11] rfl, (hS.sub [4, 5, 6, 2] (by decide) (by first | rfl | simp) (by simp))⟩
            · skip
              refine ha_op 28 rfl (wn_none rfl) (wp_alloc (cs := #[_, _, _, _, _, _, _, _, _, _, _, _]) hF hS rfl rfl rfl zr39 rfl ?_)
              clear hF hS; intro a w g556 hF hS
              replace hSS := hS.sub [3] (by decide) rfl (by simp)
              refine ⟨.inr hSS, ?_⟩
              have hr557 := rnd_bounds (((x488) / 1024)) (5 : Int) (by omega)
              refine ha_one 19 (by kernel_rfl) rfl (wn_none rfl) (wp_call (vs := [_, _]) hF rfl rfl rfl rfl cf11 (round_any (((x488) / 1024)) (5 : Int) _ (by omega)) ?_)
              clear hF; rintro _ w ⟨rfl, hS1⟩ a hF
              replace hS := hS.callB hS1 rfl; clear hS1
              replace hSS := hS.sub [3] (by decide) rfl (by simp)
              refine ⟨.inr hSS, ?_⟩
              refine ha_one 25 (by kernel_rfl) rfl (wn_none rfl) (wp_call (vs := [_]) hF rfl rfl rfl rfl cf12 (rule_any (((x488) / 8192)) _) ?_)
              clear hF; rintro _ w ⟨k558, f559, l560, s561, t562, er563, dn564, hf565, dl566, rfl, hb567, hb568, hb569, hb570, hb571, hb572, hb573, hb574, hS1⟩ a hF
              replace hS := hS.callB hS1 rfl; clear hS1
              replace hSS := hS.sub [3] (by decide) rfl (by simp)
              refine ⟨.inr hSS, ?_⟩
              refine ha_yl 26 hF rfl rfl rfl (by kernel_rfl) (by kernel_rfl) (by kernel_rfl) (by decide) (fun _ _ _ h => h) (wn_none rfl) (.inr hSS) (yl_field hF rfl rfl (fun w => by kernel_rfl : ∀ w, (Instr.field 36 (.agg #[.int .i64 (k558), .int .i64 (f559), .int .i64 (l560), .int .i64 (s561), .int .i64 (t562), .int .i64 (er563), .int .i64 (dn564), .bool hf565, .int .i64 (dl566)]) 5).run Try.prog w = .ok (.agg #[.int .i64 (er563), .int .i64 (dn564), .bool hf565, .int .i64 (dl566)]) w)) ?_
              clear hF; intro a hF
              refine ha_yl 27 hF rfl rfl rfl (by kernel_rfl) (by kernel_rfl) (by kernel_rfl) (by decide) (fun _ _ _ h => h) (wn_none rfl) (.inr hSS) (yl_build (parts := [(0, .tmp 42), (1, .tmp 49), (2, .tmp 55), (3, .tmp 61), (8, .tmp 68)]) (vs := [(0, _), (1, _), (2, _), (3, _), (8, _)]) (cs := [_, _, _, _, _, _, _, _, _, _, _, _]) hF bd39 rfl rfl rfl rfl) ?_
              clear hF; intro a hF
              refine ha_one 29 (by kernel_rfl) rfl (wn_none rfl) (wp_store (cs' := #[_, _, _, _, _, _, _, _, _, _, _, _]) hF hS rfl rfl rfl rfl 0 rfl sz39 (by simp [Value.cells, Value.oneCell']) (by simp [Value.cells]) rfl ?_)
              clear hF hS; intro a w hF hS
              replace hSS := hS.sub [3] (by decide) rfl (by simp)
              refine ⟨.inr hSS, ?_⟩
              refine ha_done (by kernel_rfl) ?_ _
              refine then_n ?_
              refine c_seq ?_
              refine c_region ?_
              refine seq_yl hF (wn_none rfl) rfl rfl (yl_loadK (rs := [_, _, _, _]) (fun _ h => h ▸ hS) hF rfl rfl 1 rfl ag25 sz25 rfl rfl) ?_
              clear hF; intro a hF
              refine seq_yl hF (wn_none rfl) rfl rfl (yl_loadK (rs := [_, _, _]) (fun _ h => h ▸ hS) hF rfl rfl 2 rfl ag27 sz27 rfl rfl) ?_
              clear hF; intro a hF
              refine seq_yl hF (wn_none rfl) rfl rfl (yl_move hF rfl rfl) ?_
              clear hF; intro a hF
              refine seq_yl hF (wn_none rfl) rfl rfl (yl_loadK (rs := [_, _, _, _, _, _, _, _, _, _, _, _]) (fun _ h => h ▸ hS) hF rfl rfl 0 rfl ag39 sz39 rfl rfl) ?_
              clear hF; intro a hF
              refine seq_wp (wn_none rfl) (wp_call (vs := [_, _, _, _]) hF rfl rfl rfl rfl cf13 (push_any (Qu.mk (Q.d) (Q.h) (Q.f) Q.L) (b474) (e475) (m476) (((now) + ((rnd (x488) (7 : Int))))) (E39.mk ((i : Nat) : Int) (((1 : Int) + ((rnd (((x488) / 8)) (3 : Int))))) ((rnd (((x488) / 32)) (20 : Int))) ((rnd (((x488) / 1024)) (5 : Int))) (⟨#[]⟩) false (0 : Int) (0 : Int) (er563) (dn564) hf565 (dl566)) _ _ (hS.rdRow 4 rfl) (by first | omega | (simp; done) | (simp; omega))) ?_)
              clear hF; rintro _ w ⟨d575, h576, f577, er578, v580, L579, rfl, hp581, hS1⟩ a hF
              replace hS := hS.callB hS1 rfl; clear hS1
              obtain ⟨Av580, cv580, rfl⟩ := hS.form 0 rfl
              refine seq_yl hF (wn_none rfl) rfl rfl (yl_move hF rfl rfl) ?_
              clear hF; intro a hF
              refine seq_yl hF (wn_none rfl) rfl rfl (yl_extract hF rfl rfl rfl) ?_
              clear hF; intro a hF
              refine seq_yl hF (wn_none rfl) rfl rfl (yl_extract hF rfl rfl rfl) ?_
              clear hF; intro a hF
              have hrun := push_run hp581 hpq0 (by omega) ⟨rfl, by (try dsimp only); omega, by (try dsimp only); omega, by (try dsimp only); omega, by (try dsimp only); omega⟩ (by omega) (by omega) (by omega) (by omega); dsimp only at hrun; rcases hrun with ⟨hfull, her⟩ | ⟨her, hroom, hdd, hlen, hpq, hhh, en, hLL, hlast, hcase⟩
              · skip
                replace hF := fr_seti (b' := 3) hF (by assumption)
                refine seq_wp (wn_none rfl) (wp_alloc (cs := #[_, _, _, _]) hF hS rfl rfl rfl zr25 rfl ?_)
                clear hF hS; intro a w g582 hF hS
                refine seq_wp (wn_none rfl) (wp_store (cs' := #[_, _, _, _]) hF hS rfl rfl rfl rfl 0 rfl sz25 (by simp [Value.cells, Value.oneCell']) (by simp [Value.cells]) rfl ?_)
                clear hF hS; intro a w hF hS
                refine seq_yl hF (wn_none rfl) rfl rfl (yl_assign hF rfl rfl) ?_
                clear hF; intro a hF
                refine wpList_nil ?_
                refine then_n ?_
                refine c_seq ?_
                refine c_seq ?_
                refine c_region ?_
                refine seq_yl hF (wn_none rfl) rfl rfl (yl_fieldAddr hF rfl rfl (fun w => by kernel_rfl : ∀ w, (Instr.fieldAt 25 (.pointer (some ⟨g472, 0, none⟩)) 3).run Try.prog w = .ok (.pointer (some ⟨g472, 3, none⟩)) w)) ?_
                clear hF; intro a hF
                refine seq_yl hF (wn_none rfl) rfl rfl (yl_load (fun _ h => h ▸ hS) hF rfl rfl 3 rfl ag23 rfl) ?_
                clear hF; intro a hF
                refine seq_yl hF (wn_none rfl) rfl rfl (yl_len hF rfl rfl (fun _ => run_lenRd sl23 (hS.rdRow 6 rfl))) ?_
                clear hF; intro a hF
                refine seq_yl hF (wn_none rfl) rfl rfl (yl_fieldAddr hF rfl rfl (fun w => by kernel_rfl : ∀ w, (Instr.fieldAt 25 (.pointer (some ⟨g472, 0, none⟩)) 0).run Try.prog w = .ok (.pointer (some ⟨g472, 0, none⟩)) w)) ?_
                clear hF; intro a hF
                refine seq_yl hF (wn_none rfl) rfl rfl (yl_load (fun _ h => h ▸ hS) hF rfl rfl 3 rfl ag3 rfl) ?_
                clear hF; intro a hF
                refine seq_yl hF (wn_none rfl) rfl rfl (yl_bin hF rfl rfl rfl rfl (fun _ => run_geq)) ?_
                clear hF; intro a hF
                replace hF := fr_set (b' := true) hF (by first | (rw [decide_eq_true_eq]; omega) | (rw [decide_eq_false_iff_not]; omega))
                refine wpList_nil ?_
                refine then_n ?_
                refine c_cond_t hF rfl ?_
                refine c_seq ?_
                refine c_seq ?_
                refine c_region ?_
                refine seq_yl hF (wn_none rfl) rfl rfl (yl_move hF rfl rfl) ?_
                clear hF; intro a hF
                refine seq_yl hF (wn_none rfl) rfl rfl (yl_bin hF rfl rfl rfl rfl (fun _ => run_neq)) ?_
                clear hF; intro a hF
                replace hF := fr_set (b' := false) hF (by decide)
                refine wpList_nil ?_
                refine then_n ?_
                refine c_cond_f hF rfl ?_
                refine wp_skip ?_
                refine then_n ?_
                refine wp_exit ?_
                refine then_x ?_
                refine inb_x ?_
                refine then_n ?_
                refine c_region ?_
                refine seq_yl hF (wn_none rfl) rfl rfl (yl_move hF rfl rfl) ?_
                clear hF; intro a hF
                refine seq_yl hF (wn_none rfl) rfl rfl (yl_bin hF rfl rfl rfl rfl (fun _ => run_inc (by omega))) ?_
                clear hF; intro a hF
                refine seq_yl hF (wn_none rfl) rfl rfl (yl_assign hF rfl rfl) ?_
                clear hF; intro a hF
                refine wpList_nil ?_
                refine then_n ?_
                exact ⟨_, (by omega), i + 1, (((now) + ((rnd (x488) (7 : Int))))), (last), Q, AvQ, cvQ, rfl, ⟨by omega, by omega, by omega, by (try dsimp only); omega, pq_mono hpq0, by (try dsimp only); omega⟩, hF.to [0, 4, 5, 7, 9, 10, 11] rfl, (hS.sub [3, 4, 5, 6] (by decide) (by first | rfl | simp) (by simp))⟩
              · skip
                replace hF := fr_seti (b' := 0) hF (by assumption)
                refine seq_wp (wn_none rfl) (wp_alloc (cs := #[_, _, _, _]) hF hS rfl rfl rfl zr25 rfl ?_)
                clear hF hS; intro a w g583 hF hS
                refine seq_wp (wn_none rfl) (wp_store (cs' := #[_, _, _, _]) hF hS rfl rfl rfl rfl 0 rfl sz25 (by simp [Value.cells, Value.oneCell']) (by simp [Value.cells]) rfl ?_)
                clear hF hS; intro a w hF hS
                refine seq_yl hF (wn_none rfl) rfl rfl (yl_assign hF rfl rfl) ?_
                clear hF; intro a hF
                refine wpList_nil ?_
                refine then_n ?_
                refine c_seq ?_
                refine c_seq ?_
                refine c_region ?_
                refine seq_yl hF (wn_none rfl) rfl rfl (yl_fieldAddr hF rfl rfl (fun w => by kernel_rfl : ∀ w, (Instr.fieldAt 25 (.pointer (some ⟨g472, 0, none⟩)) 3).run Try.prog w = .ok (.pointer (some ⟨g472, 3, none⟩)) w)) ?_
                clear hF; intro a hF
                refine seq_yl hF (wn_none rfl) rfl rfl (yl_load (fun _ h => h ▸ hS) hF rfl rfl 3 rfl ag23 rfl) ?_
                clear hF; intro a hF
                refine seq_yl hF (wn_none rfl) rfl rfl (yl_len hF rfl rfl (fun _ => run_lenRd sl23 (hS.rdRow 6 rfl))) ?_
                clear hF; intro a hF
                refine seq_yl hF (wn_none rfl) rfl rfl (yl_fieldAddr hF rfl rfl (fun w => by kernel_rfl : ∀ w, (Instr.fieldAt 25 (.pointer (some ⟨g472, 0, none⟩)) 0).run Try.prog w = .ok (.pointer (some ⟨g472, 0, none⟩)) w)) ?_
                clear hF; intro a hF
                refine seq_yl hF (wn_none rfl) rfl rfl (yl_load (fun _ h => h ▸ hS) hF rfl rfl 3 rfl ag3 rfl) ?_
                clear hF; intro a hF
                refine seq_yl hF (wn_none rfl) rfl rfl (yl_bin hF rfl rfl rfl rfl (fun _ => run_geq)) ?_
                clear hF; intro a hF
                replace hF := fr_set (b' := false) hF (by first | (rw [decide_eq_true_eq]; omega) | (rw [decide_eq_false_iff_not]; omega))
                refine wpList_nil ?_
                refine then_n ?_
                refine c_cond_f hF rfl ?_
                refine wp_skip ?_
                refine then_n ?_
                refine c_seq ?_
                refine c_seq ?_
                refine c_region ?_
                refine seq_yl hF (wn_none rfl) rfl rfl (yl_move hF rfl rfl) ?_
                clear hF; intro a hF
                refine seq_yl hF (wn_none rfl) rfl rfl (yl_bin hF rfl rfl rfl rfl (fun _ => run_neq)) ?_
                clear hF; intro a hF
                replace hF := fr_set (b' := false) hF (by decide)
                refine seq_yl hF (wn_none rfl) rfl rfl (yl_move hF rfl rfl) ?_
                clear hF; intro a hF
                refine seq_yl hF (wn_t hF rfl rfl rfl rfl) rfl rfl (yl_fieldAddr hF rfl rfl (fun w => by kernel_rfl : ∀ w, (Instr.fieldAt 25 (.pointer (some ⟨g583, 0, none⟩)) 3).run Try.prog w = .ok (.pointer (some ⟨g583, 3, none⟩)) w)) ?_
                clear hF; intro a hF
                refine seq_yl hF (wn_t hF rfl rfl rfl rfl) rfl rfl (yl_load (fun _ h => h ▸ hS) hF rfl rfl 0 rfl ag23 rfl) ?_
                clear hF; intro a hF
                refine seq_yl hF (wn_t hF rfl rfl rfl rfl) rfl rfl (yl_len hF rfl rfl (fun _ => run_lenRd sl23 (hS.rdRow 1 rfl))) ?_
                clear hF; intro a hF
                refine seq_yl hF (wn_t hF rfl rfl rfl rfl) rfl rfl (yl_fieldAddr hF rfl rfl (fun w => by kernel_rfl : ∀ w, (Instr.fieldAt 25 (.pointer (some ⟨g472, 0, none⟩)) 3).run Try.prog w = .ok (.pointer (some ⟨g472, 3, none⟩)) w)) ?_
                clear hF; intro a hF
                refine seq_yl hF (wn_t hF rfl rfl rfl rfl) rfl rfl (yl_load (fun _ h => h ▸ hS) hF rfl rfl 3 rfl ag23 rfl) ?_
                clear hF; intro a hF
                refine seq_yl hF (wn_t hF rfl rfl rfl rfl) rfl rfl (yl_len hF rfl rfl (fun _ => run_lenRd sl23 (hS.rdRow 6 rfl))) ?_
                clear hF; intro a hF
                refine seq_yl hF (wn_t hF rfl rfl rfl rfl) rfl rfl (yl_bin hF rfl rfl rfl rfl (fun _ => run_inc (by omega))) ?_
                clear hF; intro a hF
                refine seq_yl hF (wn_t hF rfl rfl rfl rfl) rfl rfl (yl_bin hF rfl rfl rfl rfl (fun _ => run_neq)) ?_
                clear hF; intro a hF
                replace hF := fr_set (b' := false) hF (by rw [decide_eq_false_iff_not]; omega)
                refine seq_yl hF (wn_none rfl) rfl rfl (yl_pick (u := _) (v := undef) hF rfl rfl (fun h => by cases h) (fun _ => rfl)) ?_
                clear hF; intro a hF
                refine wpList_nil ?_
                refine then_n ?_
                refine c_cond_f hF rfl ?_
                refine wp_skip ?_
                refine then_n ?_
                refine c_seq ?_
                refine c_region ?_
                refine seq_yl hF (wn_none rfl) rfl rfl (yl_fieldAddr hF rfl rfl (fun w => by kernel_rfl : ∀ w, (Instr.fieldAt 25 (.pointer (some ⟨g583, 0, none⟩)) 3).run Try.prog w = .ok (.pointer (some ⟨g583, 3, none⟩)) w)) ?_
                clear hF; intro a hF
                refine seq_yl hF (wn_none rfl) rfl rfl (yl_load (fun _ h => h ▸ hS) hF rfl rfl 0 rfl ag23 rfl) ?_
                clear hF; intro a hF
                refine seq_yl hF (wn_none rfl) rfl rfl (yl_fieldAddr hF rfl rfl (fun w => by kernel_rfl : ∀ w, (Instr.fieldAt 25 (.pointer (some ⟨g583, 0, none⟩)) 3).run Try.prog w = .ok (.pointer (some ⟨g583, 3, none⟩)) w)) ?_
                clear hF; intro a hF
                refine seq_yl hF (wn_none rfl) rfl rfl (yl_load (fun _ h => h ▸ hS) hF rfl rfl 0 rfl ag23 rfl) ?_
                clear hF; intro a hF
                refine seq_yl hF (wn_none rfl) rfl rfl (yl_len hF rfl rfl (fun _ => run_lenRd sl23 (hS.rdRow 1 rfl))) ?_
                clear hF; intro a hF
                refine seq_yl hF (wn_none rfl) rfl rfl (yl_bin hF rfl rfl rfl rfl (fun _ => run_dec (c := 1) (by omega) (by omega))) ?_
                clear hF; intro a hF
                have hlt_hx584 : ((L579).length - 1) < (L579).length := by first | omega | (simp; done) | (simp; omega)
                obtain ⟨ad585, rfl⟩ := rd_some (hS.rdRow 1 rfl) hlt_hx584
                obtain ⟨x584, hx584⟩ := get_some hlt_hx584
                refine seq_yl hF (wn_none rfl) rfl rfl (yl_indexAddr hF rfl rfl rfl (fun _ => run_idx' sl23 sz39 (hS.rdRow 1 rfl) hlt_hx584)) ?_
                clear hF; intro a hF
                refine seq_yl hF (wn_none rfl) rfl rfl (yl_loadEl (rs := [.int .i64 (x584.f0), .int .i64 (x584.f1), .int .i64 (x584.f2), .int .i64 (x584.f3), .string x584.f4, .bool x584.f5, .int .i64 (x584.f6), .int .i64 (x584.f7), .int .i64 (x584.f8), .int .i64 (x584.f9), .bool x584.f10, .int .i64 (x584.f11)]) hF rfl rfl ag39 sz39 rfl (fun _ h => rd_cells (enc := enc39) (by subst h; exact hS.rdRow 1 rfl) enc39_len hx584)) ?_
                clear hF; intro a hF
                refine seq_wp (wn_none rfl) (wp_alloc (cs := #[_, _, _, _, _, _, _, _, _, _, _, _]) hF hS rfl rfl rfl zr39 rfl ?_)
                clear hF hS; intro a w g586 hF hS
                refine seq_wp (wn_none rfl) (wp_store (cs' := #[_, _, _, _, _, _, _, _, _, _, _, _]) hF hS rfl rfl rfl rfl 0 rfl sz39 (by simp [Value.cells, Value.oneCell']) (by simp [Value.cells]) rfl ?_)
                clear hF hS; intro a w hF hS
                refine wpList_nil ?_
                refine then_n ?_
                refine c_seq ?_
                refine c_seq ?_
                refine c_region ?_
                refine seq_yl hF (wn_none rfl) rfl rfl (yl_fieldAddr hF rfl rfl (fun w => by kernel_rfl : ∀ w, (Instr.fieldAt 39 (.pointer (some ⟨g586, 0, none⟩)) 6).run Try.prog w = .ok (.pointer (some ⟨g586, 6, none⟩)) w)) ?_
                clear hF; intro a hF
                have hxe := Option.some.inj (hx584.symm.trans (show L579[((L579).length - 1)]? = _ by rw [show ((L579).length - 1) = Q.L.length by omega]; exact hlast))
                have hx6 : x584.f6 = max (((now) + ((rnd (x488) (7 : Int))))) Q.f := by rw [hxe]; rfl
                have hx7 : x584.f7 = en := by rw [hxe]; rfl
                refine seq_yl hF (wn_none rfl) rfl rfl (yl_load (fun _ h => h ▸ hS) hF rfl rfl 0 rfl ag3 rfl) ?_
                clear hF; intro a hF
                refine seq_yl hF (wn_none rfl) rfl rfl (yl_move hF rfl rfl) ?_
                clear hF; intro a hF
                refine seq_yl hF (wn_none rfl) rfl rfl (yl_move hF rfl rfl) ?_
                clear hF; intro a hF
                refine seq_yl hF (wn_none rfl) rfl rfl (yl_max2 hF rfl rfl rfl) ?_
                clear hF; intro a hF
                refine seq_yl hF (wn_none rfl) rfl rfl (yl_bin hF rfl rfl rfl rfl (fun _ => run_neq)) ?_
                clear hF; intro a hF
                replace hF := fr_set (b' := false) hF (by rw [decide_eq_false_iff_not]; omega)
                refine wpList_nil ?_
                refine then_n ?_
                refine c_cond_f hF rfl ?_
                refine wp_skip ?_
                refine then_n ?_
                refine c_seq ?_
                refine c_seq ?_
                refine c_region ?_
                refine seq_yl hF (wn_none rfl) rfl rfl (yl_fieldAddr hF rfl rfl (fun w => by kernel_rfl : ∀ w, (Instr.fieldAt 39 (.pointer (some ⟨g556, 0, none⟩)) 8).run Try.prog w = .ok (.pointer (some ⟨g556, 8, none⟩)) w)) ?_
                clear hF; intro a hF
                refine seq_yl hF (wn_none rfl) rfl rfl (yl_fieldAddr hF rfl rfl (fun w => by kernel_rfl : ∀ w, (Instr.fieldAt 34 (.pointer (some ⟨g556, 8, none⟩)) 0).run Try.prog w = .ok (.pointer (some ⟨g556, 8, none⟩)) w)) ?_
                clear hF; intro a hF
                refine seq_yl hF (wn_none rfl) rfl rfl (yl_load (fun _ h => h ▸ hS) hF rfl rfl 3 rfl ag32 rfl) ?_
                clear hF; intro a hF
                refine seq_yl hF (wn_none rfl) rfl rfl (yl_bin hF rfl rfl rfl rfl (fun _ => run_eql)) ?_
                clear hF; intro a hF
                refine wpList_nil ?_
                refine then_n ?_
                refine c_cond hF rfl (fun hc587 => ?_) (fun hc587 => ?_)
                · first | (replace hc587 := of_decide_eq_true hc587) | (replace hc587 := of_decide_eq_false (bnot_t hc587)) | (subst hc587) | (replace hc587 := bnot_t hc587; subst hc587) | (replace hc587 := bnot_t hc587) | skip
                  refine c_seq ?_
                  refine c_region ?_
                  refine seq_yl hF (wn_none rfl) rfl rfl (yl_fieldAddr hF rfl rfl (fun w => by kernel_rfl : ∀ w, (Instr.fieldAt 39 (.pointer (some ⟨g586, 0, none⟩)) 7).run Try.prog w = .ok (.pointer (some ⟨g586, 7, none⟩)) w)) ?_
                  clear hF; intro a hF
                  refine seq_yl hF (wn_none rfl) rfl rfl (yl_load (fun _ h => h ▸ hS) hF rfl rfl 0 rfl ag3 rfl) ?_
                  clear hF; intro a hF
                  refine seq_yl hF (wn_none rfl) rfl rfl (yl_bin hF rfl rfl rfl rfl (fun _ => run_neq)) ?_
                  clear hF; intro a hF
                  replace hF := fr_set (b' := false) hF (by rw [decide_eq_false_iff_not]; omega)
                  refine seq_yl hF (wn_none rfl) rfl rfl (yl_move hF rfl rfl) ?_
                  clear hF; intro a hF
                  refine seq_yl hF (wn_t hF rfl rfl rfl rfl) rfl rfl (yl_fieldAddr hF rfl rfl (fun w => by kernel_rfl : ∀ w, (Instr.fieldAt 25 (.pointer (some ⟨g583, 0, none⟩)) 2).run Try.prog w = .ok (.pointer (some ⟨g583, 2, none⟩)) w)) ?_
                  clear hF; intro a hF
                  refine seq_yl hF (wn_t hF rfl rfl rfl rfl) rfl rfl (yl_load (fun _ h => h ▸ hS) hF rfl rfl 1 rfl ag3 rfl) ?_
                  clear hF; intro a hF
                  refine seq_yl hF (wn_t hF rfl rfl rfl rfl) rfl rfl (yl_fieldAddr hF rfl rfl (fun w => by kernel_rfl : ∀ w, (Instr.fieldAt 25 (.pointer (some ⟨g472, 0, none⟩)) 2).run Try.prog w = .ok (.pointer (some ⟨g472, 2, none⟩)) w)) ?_
                  clear hF; intro a hF
                  refine seq_yl hF (wn_t hF rfl rfl rfl rfl) rfl rfl (yl_load (fun _ h => h ▸ hS) hF rfl rfl 4 rfl ag3 rfl) ?_
                  clear hF; intro a hF
                  refine seq_yl hF (wn_t hF rfl rfl rfl rfl) rfl rfl (yl_bin hF rfl rfl rfl rfl (fun _ => run_neq)) ?_
                  clear hF; intro a hF
                  replace hF := fr_set (b' := false) hF (by rw [decide_eq_false_iff_not]; omega)
                  refine seq_yl hF (wn_none rfl) rfl rfl (yl_pick (u := _) (v := undef) hF rfl rfl (fun h => by cases h) (fun _ => rfl)) ?_
                  clear hF; intro a hF
                  refine wpList_nil ?_
                  refine then_n ?_
                  refine c_cond_f hF rfl ?_
                  refine wp_skip ?_
                  refine then_n ?_
                  refine c_region ?_
                  refine seq_yl hF (wn_none rfl) rfl rfl (yl_loadK (rs := [_, _, _, _]) (fun _ h => h ▸ hS) hF rfl rfl 1 rfl ag25 sz25 rfl rfl) ?_
                  clear hF; intro a hF
                  refine seq_wp (wn_none rfl) (wp_store (cs' := #[_, _, _, _]) hF hS rfl rfl rfl rfl 4 rfl sz25 (by simp [Value.cells, Value.oneCell']) (by simp [Value.cells]) rfl ?_)
                  clear hF hS; intro a w hF hS
                  refine wpList_nil ?_
                  refine inb_n ?_
                  refine then_n ?_
                  refine c_region ?_
                  refine seq_yl hF (wn_none rfl) rfl rfl (yl_move hF rfl rfl) ?_
                  clear hF; intro a hF
                  refine seq_yl hF (wn_none rfl) rfl rfl (yl_bin hF rfl rfl rfl rfl (fun _ => run_inc (by omega))) ?_
                  clear hF; intro a hF
                  refine seq_yl hF (wn_none rfl) rfl rfl (yl_assign hF rfl rfl) ?_
                  clear hF; intro a hF
                  refine wpList_nil ?_
                  refine then_n ?_
                  exact ⟨_, (by omega), i + 1, (((now) + ((rnd (x488) (7 : Int))))), (last), (Qu.mk (d575) (h576) (f577) L579), (some ad585), cv580, rfl, ⟨by omega, by omega, by omega, by (try dsimp only); omega, hpq, by (try dsimp only); omega⟩, hF.to [0, 4, 5, 7, 9, 10, 11] rfl, (hS.sub [4, 5, 6, 2] (by decide) (by first | rfl | simp) (by simp))⟩
                · first | (replace hc587 := of_decide_eq_false hc587) | (replace hc587 := of_decide_eq_true (bnot_f hc587)) | (subst hc587) | (replace hc587 := bnot_f hc587; subst hc587) | (replace hc587 := bnot_f hc587) | skip
                  refine c_seq ?_
                  refine c_region ?_
                  refine seq_yl hF (wn_none rfl) rfl rfl (yl_fieldAddr hF rfl rfl (fun w => by kernel_rfl : ∀ w, (Instr.fieldAt 39 (.pointer (some ⟨g586, 0, none⟩)) 7).run Try.prog w = .ok (.pointer (some ⟨g586, 7, none⟩)) w)) ?_
                  clear hF; intro a hF
                  refine seq_yl hF (wn_none rfl) rfl rfl (yl_load (fun _ h => h ▸ hS) hF rfl rfl 0 rfl ag3 rfl) ?_
                  clear hF; intro a hF
                  refine seq_yl hF (wn_none rfl) rfl rfl (yl_fieldAddr hF rfl rfl (fun w => by kernel_rfl : ∀ w, (Instr.fieldAt 39 (.pointer (some ⟨g586, 0, none⟩)) 6).run Try.prog w = .ok (.pointer (some ⟨g586, 6, none⟩)) w)) ?_
                  clear hF; intro a hF
                  refine seq_yl hF (wn_none rfl) rfl rfl (yl_load (fun _ h => h ▸ hS) hF rfl rfl 0 rfl ag3 rfl) ?_
                  clear hF; intro a hF
                  refine seq_yl hF (wn_none rfl) rfl rfl (yl_bin hF rfl rfl rfl rfl (fun _ => run_leq)) ?_
                  clear hF; intro a hF
                  replace hF := fr_set (b' := false) hF (by rw [decide_eq_false_iff_not]; omega)
                  refine seq_yl hF (wn_none rfl) rfl rfl (yl_move hF rfl rfl) ?_
                  clear hF; intro a hF
                  refine seq_yl hF (wn_t hF rfl rfl rfl rfl) rfl rfl (yl_fieldAddr hF rfl rfl (fun w => by kernel_rfl : ∀ w, (Instr.fieldAt 25 (.pointer (some ⟨g583, 0, none⟩)) 2).run Try.prog w = .ok (.pointer (some ⟨g583, 2, none⟩)) w)) ?_
                  clear hF; intro a hF
                  refine seq_yl hF (wn_t hF rfl rfl rfl rfl) rfl rfl (yl_load (fun _ h => h ▸ hS) hF rfl rfl 1 rfl ag3 rfl) ?_
                  clear hF; intro a hF
                  refine seq_yl hF (wn_t hF rfl rfl rfl rfl) rfl rfl (yl_fieldAddr hF rfl rfl (fun w => by kernel_rfl : ∀ w, (Instr.fieldAt 39 (.pointer (some ⟨g586, 0, none⟩)) 7).run Try.prog w = .ok (.pointer (some ⟨g586, 7, none⟩)) w)) ?_
                  clear hF; intro a hF
                  refine seq_yl hF (wn_t hF rfl rfl rfl rfl) rfl rfl (yl_load (fun _ h => h ▸ hS) hF rfl rfl 0 rfl ag3 rfl) ?_
                  clear hF; intro a hF
                  refine seq_yl hF (wn_t hF rfl rfl rfl rfl) rfl rfl (yl_bin hF rfl rfl rfl rfl (fun _ => run_neq)) ?_
                  clear hF; intro a hF
                  replace hF := fr_set (b' := false) hF (by rw [decide_eq_false_iff_not]; omega)
                  refine seq_yl hF (wn_none rfl) rfl rfl (yl_pick (u := _) (v := undef) hF rfl rfl (fun h => by cases h) (fun _ => rfl)) ?_
                  clear hF; intro a hF
                  refine wpList_nil ?_
                  refine then_n ?_
                  refine c_cond_f hF rfl ?_
                  refine c_region ?_
                  refine seq_yl hF (wn_none rfl) rfl rfl (yl_fieldAddr hF rfl rfl (fun w => by kernel_rfl : ∀ w, (Instr.fieldAt 39 (.pointer (some ⟨g586, 0, none⟩)) 7).run Try.prog w = .ok (.pointer (some ⟨g586, 7, none⟩)) w)) ?_
                  clear hF; intro a hF
                  refine seq_yl hF (wn_none rfl) rfl rfl (yl_load (fun _ h => h ▸ hS) hF rfl rfl 0 rfl ag3 rfl) ?_
                  clear hF; intro a hF
                  refine seq_yl hF (wn_none rfl) rfl rfl (yl_assign hF rfl rfl) ?_
                  clear hF; intro a hF
                  refine wpList_nil ?_
                  refine then_n ?_
                  refine c_region ?_
                  refine seq_yl hF (wn_none rfl) rfl rfl (yl_loadK (rs := [_, _, _, _]) (fun _ h => h ▸ hS) hF rfl rfl 1 rfl ag25 sz25 rfl rfl) ?_
                  clear hF; intro a hF
                  refine seq_wp (wn_none rfl) (wp_store (cs' := #[_, _, _, _]) hF hS rfl rfl rfl rfl 4 rfl sz25 (by simp [Value.cells, Value.oneCell']) (by simp [Value.cells]) rfl ?_)
                  clear hF hS; intro a w hF hS
                  refine wpList_nil ?_
                  refine inb_n ?_
                  refine then_n ?_
                  refine c_region ?_
                  refine seq_yl hF (wn_none rfl) rfl rfl (yl_move hF rfl rfl) ?_
                  clear hF; intro a hF
                  refine seq_yl hF (wn_none rfl) rfl rfl (yl_bin hF rfl rfl rfl rfl (fun _ => run_inc (by omega))) ?_
                  clear hF; intro a hF
                  refine seq_yl hF (wn_none rfl) rfl rfl (yl_assign hF rfl rfl) ?_
                  clear hF; intro a hF
                  refine wpList_nil ?_
                  refine then_n ?_
                  exact ⟨_, (by omega), i + 1, (((now) + ((rnd (x488) (7 : Int))))), (x584.f7), (Qu.mk (d575) (h576) (f577) L579), (some ad585), cv580, rfl, ⟨by omega, by omega, by omega, by (try dsimp only); omega, hpq, by (try dsimp only); omega⟩, hF.to [0, 4, 5, 7, 9, 10, 11] rfl, (hS.sub [4, 5, 6, 2] (by decide) (by first | rfl | simp) (by simp))⟩
          · skip
            refine ha_op 28 rfl (wn_none rfl) (wp_alloc (cs := #[_, _, _, _, _, _, _, _, _, _, _, _]) hF hS rfl rfl rfl zr39 rfl ?_)
            clear hF hS; intro a w g588 hF hS
            replace hSS := hS.sub [3] (by decide) rfl (by simp)
            refine ⟨.inr hSS, ?_⟩
            have hr589 := rnd_bounds (((x488) / 32)) (20 : Int) (by omega)
            refine ha_one 13 (by kernel_rfl) rfl (wn_none rfl) (wp_call (vs := [_, _]) hF rfl rfl rfl rfl cf11 (round_any (((x488) / 32)) (20 : Int) _ (by omega)) ?_)
            clear hF; rintro _ w ⟨rfl, hS1⟩ a hF
            replace hS := hS.callB hS1 rfl; clear hS1
            replace hSS := hS.sub [3] (by decide) rfl (by simp)
            refine ⟨.inr hSS, ?_⟩
            have hr590 := rnd_bounds (((x488) / 1024)) (5 : Int) (by omega)
            refine ha_one 19 (by kernel_rfl) rfl (wn_none rfl) (wp_call (vs := [_, _]) hF rfl rfl rfl rfl cf11 (round_any (((x488) / 1024)) (5 : Int) _ (by omega)) ?_)
            clear hF; rintro _ w ⟨rfl, hS1⟩ a hF
            replace hS := hS.callB hS1 rfl; clear hS1
            replace hSS := hS.sub [3] (by decide) rfl (by simp)
            refine ⟨.inr hSS, ?_⟩
            refine ha_one 25 (by kernel_rfl) rfl (wn_none rfl) (wp_call (vs := [_]) hF rfl rfl rfl rfl cf12 (rule_any (((x488) / 8192)) _) ?_)
            clear hF; rintro _ w ⟨k591, f592, l593, s594, t595, er596, dn597, hf598, dl599, rfl, hb600, hb601, hb602, hb603, hb604, hb605, hb606, hb607, hS1⟩ a hF
            replace hS := hS.callB hS1 rfl; clear hS1
            replace hSS := hS.sub [3] (by decide) rfl (by simp)
            refine ⟨.inr hSS, ?_⟩
            refine ha_yl 26 hF rfl rfl rfl (by kernel_rfl) (by kernel_rfl) (by kernel_rfl) (by decide) (fun _ _ _ h => h) (wn_none rfl) (.inr hSS) (yl_field hF rfl rfl (fun w => by kernel_rfl : ∀ w, (Instr.field 36 (.agg #[.int .i64 (k591), .int .i64 (f592), .int .i64 (l593), .int .i64 (s594), .int .i64 (t595), .int .i64 (er596), .int .i64 (dn597), .bool hf598, .int .i64 (dl599)]) 5).run Try.prog w = .ok (.agg #[.int .i64 (er596), .int .i64 (dn597), .bool hf598, .int .i64 (dl599)]) w)) ?_
            clear hF; intro a hF
            refine ha_yl 27 hF rfl rfl rfl (by kernel_rfl) (by kernel_rfl) (by kernel_rfl) (by decide) (fun _ _ _ h => h) (wn_none rfl) (.inr hSS) (yl_build (parts := [(0, .tmp 42), (1, .tmp 49), (2, .tmp 55), (3, .tmp 61), (8, .tmp 68)]) (vs := [(0, _), (1, _), (2, _), (3, _), (8, _)]) (cs := [_, _, _, _, _, _, _, _, _, _, _, _]) hF bd39 rfl rfl rfl rfl) ?_
            clear hF; intro a hF
            refine ha_one 29 (by kernel_rfl) rfl (wn_none rfl) (wp_store (cs' := #[_, _, _, _, _, _, _, _, _, _, _, _]) hF hS rfl rfl rfl rfl 0 rfl sz39 (by simp [Value.cells, Value.oneCell']) (by simp [Value.cells]) rfl ?_)
            clear hF hS; intro a w hF hS
            replace hSS := hS.sub [3] (by decide) rfl (by simp)
            refine ⟨.inr hSS, ?_⟩
            refine ha_done (by kernel_rfl) ?_ _
            refine then_n ?_
            refine c_seq ?_
            refine c_region ?_
            refine seq_yl hF (wn_none rfl) rfl rfl (yl_loadK (rs := [_, _, _, _]) (fun _ h => h ▸ hS) hF rfl rfl 1 rfl ag25 sz25 rfl rfl) ?_
            clear hF; intro a hF
            refine seq_yl hF (wn_none rfl) rfl rfl (yl_loadK (rs := [_, _, _]) (fun _ h => h ▸ hS) hF rfl rfl 2 rfl ag27 sz27 rfl rfl) ?_
            clear hF; intro a hF
            refine seq_yl hF (wn_none rfl) rfl rfl (yl_move hF rfl rfl) ?_
            clear hF; intro a hF
            refine seq_yl hF (wn_none rfl) rfl rfl (yl_loadK (rs := [_, _, _, _, _, _, _, _, _, _, _, _]) (fun _ h => h ▸ hS) hF rfl rfl 0 rfl ag39 sz39 rfl rfl) ?_
            clear hF; intro a hF
            refine seq_wp (wn_none rfl) (wp_call (vs := [_, _, _, _]) hF rfl rfl rfl rfl cf13 (push_any (Qu.mk (Q.d) (Q.h) (Q.f) Q.L) (b474) (e475) (m476) (((now) + ((rnd (x488) (7 : Int))))) (E39.mk ((i : Nat) : Int) (((1 : Int) + ((rnd (((x488) / 8)) (3 : Int))))) ((rnd (((x488) / 32)) (20 : Int))) ((rnd (((x488) / 1024)) (5 : Int))) (⟨#[]⟩) false (0 : Int) (0 : Int) (er596) (dn597) hf598 (dl599)) _ _ (hS.rdRow 4 rfl) (by first | omega | (simp; done) | (simp; omega))) ?_)
            clear hF; rintro _ w ⟨d608, h609, f610, er611, v613, L612, rfl, hp614, hS1⟩ a hF
            replace hS := hS.callB hS1 rfl; clear hS1
            obtain ⟨Av613, cv613, rfl⟩ := hS.form 0 rfl
            refine seq_yl hF (wn_none rfl) rfl rfl (yl_move hF rfl rfl) ?_
            clear hF; intro a hF
            refine seq_yl hF (wn_none rfl) rfl rfl (yl_extract hF rfl rfl rfl) ?_
            clear hF; intro a hF
            refine seq_yl hF (wn_none rfl) rfl rfl (yl_extract hF rfl rfl rfl) ?_
            clear hF; intro a hF
            have hrun := push_run hp614 hpq0 (by omega) ⟨rfl, by (try dsimp only); omega, by (try dsimp only); omega, by (try dsimp only); omega, by (try dsimp only); omega⟩ (by omega) (by omega) (by omega) (by omega); dsimp only at hrun; rcases hrun with ⟨hfull, her⟩ | ⟨her, hroom, hdd, hlen, hpq, hhh, en, hLL, hlast, hcase⟩
            · skip
              replace hF := fr_seti (b' := 3) hF (by assumption)
              refine seq_wp (wn_none rfl) (wp_alloc (cs := #[_, _, _, _]) hF hS rfl rfl rfl zr25 rfl ?_)
              clear hF hS; intro a w g615 hF hS
              refine seq_wp (wn_none rfl) (wp_store (cs' := #[_, _, _, _]) hF hS rfl rfl rfl rfl 0 rfl sz25 (by simp [Value.cells, Value.oneCell']) (by simp [Value.cells]) rfl ?_)
              clear hF hS; intro a w hF hS
              refine seq_yl hF (wn_none rfl) rfl rfl (yl_assign hF rfl rfl) ?_
              clear hF; intro a hF
              refine wpList_nil ?_
              refine then_n ?_
              refine c_seq ?_
              refine c_seq ?_
              refine c_region ?_
              refine seq_yl hF (wn_none rfl) rfl rfl (yl_fieldAddr hF rfl rfl (fun w => by kernel_rfl : ∀ w, (Instr.fieldAt 25 (.pointer (some ⟨g472, 0, none⟩)) 3).run Try.prog w = .ok (.pointer (some ⟨g472, 3, none⟩)) w)) ?_
              clear hF; intro a hF
              refine seq_yl hF (wn_none rfl) rfl rfl (yl_load (fun _ h => h ▸ hS) hF rfl rfl 3 rfl ag23 rfl) ?_
              clear hF; intro a hF
              refine seq_yl hF (wn_none rfl) rfl rfl (yl_len hF rfl rfl (fun _ => run_lenRd sl23 (hS.rdRow 6 rfl))) ?_
              clear hF; intro a hF
              refine seq_yl hF (wn_none rfl) rfl rfl (yl_fieldAddr hF rfl rfl (fun w => by kernel_rfl : ∀ w, (Instr.fieldAt 25 (.pointer (some ⟨g472, 0, none⟩)) 0).run Try.prog w = .ok (.pointer (some ⟨g472, 0, none⟩)) w)) ?_
              clear hF; intro a hF
              refine seq_yl hF (wn_none rfl) rfl rfl (yl_load (fun _ h => h ▸ hS) hF rfl rfl 3 rfl ag3 rfl) ?_
              clear hF; intro a hF
              refine seq_yl hF (wn_none rfl) rfl rfl (yl_bin hF rfl rfl rfl rfl (fun _ => run_geq)) ?_
              clear hF; intro a hF
              replace hF := fr_set (b' := true) hF (by first | (rw [decide_eq_true_eq]; omega) | (rw [decide_eq_false_iff_not]; omega))
              refine wpList_nil ?_
              refine then_n ?_
              refine c_cond_t hF rfl ?_
              refine c_seq ?_
              refine c_seq ?_
              refine c_region ?_
              refine seq_yl hF (wn_none rfl) rfl rfl (yl_move hF rfl rfl) ?_
              clear hF; intro a hF
              refine seq_yl hF (wn_none rfl) rfl rfl (yl_bin hF rfl rfl rfl rfl (fun _ => run_neq)) ?_
              clear hF; intro a hF
              replace hF := fr_set (b' := false) hF (by decide)
              refine wpList_nil ?_
              refine then_n ?_
              refine c_cond_f hF rfl ?_
              refine wp_skip ?_
              refine then_n ?_
              refine wp_exit ?_
              refine then_x ?_
              refine inb_x ?_
              refine then_n ?_
              refine c_region ?_
              refine seq_yl hF (wn_none rfl) rfl rfl (yl_move hF rfl rfl) ?_
              clear hF; intro a hF
              refine seq_yl hF (wn_none rfl) rfl rfl (yl_bin hF rfl rfl rfl rfl (fun _ => run_inc (by omega))) ?_
              clear hF; intro a hF
              refine seq_yl hF (wn_none rfl) rfl rfl (yl_assign hF rfl rfl) ?_
              clear hF; intro a hF
              refine wpList_nil ?_
              refine then_n ?_
              exact ⟨_, (by omega), i + 1, (((now) + ((rnd (x488) (7 : Int))))), (last), Q, AvQ, cvQ, rfl, ⟨by omega, by omega, by omega, by (try dsimp only); omega, pq_mono hpq0, by (try dsimp only); omega⟩, hF.to [0, 4, 5, 7, 9, 10, 11] rfl, (hS.sub [3, 4, 5, 6] (by decide) (by first | rfl | simp) (by simp))⟩
            · skip
              replace hF := fr_seti (b' := 0) hF (by assumption)
              refine seq_wp (wn_none rfl) (wp_alloc (cs := #[_, _, _, _]) hF hS rfl rfl rfl zr25 rfl ?_)
              clear hF hS; intro a w g616 hF hS
              refine seq_wp (wn_none rfl) (wp_store (cs' := #[_, _, _, _]) hF hS rfl rfl rfl rfl 0 rfl sz25 (by simp [Value.cells, Value.oneCell']) (by simp [Value.cells]) rfl ?_)
              clear hF hS; intro a w hF hS
              refine seq_yl hF (wn_none rfl) rfl rfl (yl_assign hF rfl rfl) ?_
              clear hF; intro a hF
              refine wpList_nil ?_
              refine then_n ?_
              refine c_seq ?_
              refine c_seq ?_
              refine c_region ?_
              refine seq_yl hF (wn_none rfl) rfl rfl (yl_fieldAddr hF rfl rfl (fun w => by kernel_rfl : ∀ w, (Instr.fieldAt 25 (.pointer (some ⟨g472, 0, none⟩)) 3).run Try.prog w = .ok (.pointer (some ⟨g472, 3, none⟩)) w)) ?_
              clear hF; intro a hF
              refine seq_yl hF (wn_none rfl) rfl rfl (yl_load (fun _ h => h ▸ hS) hF rfl rfl 3 rfl ag23 rfl) ?_
              clear hF; intro a hF
              refine seq_yl hF (wn_none rfl) rfl rfl (yl_len hF rfl rfl (fun _ => run_lenRd sl23 (hS.rdRow 6 rfl))) ?_
              clear hF; intro a hF
              refine seq_yl hF (wn_none rfl) rfl rfl (yl_fieldAddr hF rfl rfl (fun w => by kernel_rfl : ∀ w, (Instr.fieldAt 25 (.pointer (some ⟨g472, 0, none⟩)) 0).run Try.prog w = .ok (.pointer (some ⟨g472, 0, none⟩)) w)) ?_
              clear hF; intro a hF
              refine seq_yl hF (wn_none rfl) rfl rfl (yl_load (fun _ h => h ▸ hS) hF rfl rfl 3 rfl ag3 rfl) ?_
              clear hF; intro a hF
              refine seq_yl hF (wn_none rfl) rfl rfl (yl_bin hF rfl rfl rfl rfl (fun _ => run_geq)) ?_
              clear hF; intro a hF
              replace hF := fr_set (b' := false) hF (by first | (rw [decide_eq_true_eq]; omega) | (rw [decide_eq_false_iff_not]; omega))
              refine wpList_nil ?_
              refine then_n ?_
              refine c_cond_f hF rfl ?_
              refine wp_skip ?_
              refine then_n ?_
              refine c_seq ?_
              refine c_seq ?_
              refine c_region ?_
              refine seq_yl hF (wn_none rfl) rfl rfl (yl_move hF rfl rfl) ?_
              clear hF; intro a hF
              refine seq_yl hF (wn_none rfl) rfl rfl (yl_bin hF rfl rfl rfl rfl (fun _ => run_neq)) ?_
              clear hF; intro a hF
              replace hF := fr_set (b' := false) hF (by decide)
              refine seq_yl hF (wn_none rfl) rfl rfl (yl_move hF rfl rfl) ?_
              clear hF; intro a hF
              refine seq_yl hF (wn_t hF rfl rfl rfl rfl) rfl rfl (yl_fieldAddr hF rfl rfl (fun w => by kernel_rfl : ∀ w, (Instr.fieldAt 25 (.pointer (some ⟨g616, 0, none⟩)) 3).run Try.prog w = .ok (.pointer (some ⟨g616, 3, none⟩)) w)) ?_
              clear hF; intro a hF
              refine seq_yl hF (wn_t hF rfl rfl rfl rfl) rfl rfl (yl_load (fun _ h => h ▸ hS) hF rfl rfl 0 rfl ag23 rfl) ?_
              clear hF; intro a hF
              refine seq_yl hF (wn_t hF rfl rfl rfl rfl) rfl rfl (yl_len hF rfl rfl (fun _ => run_lenRd sl23 (hS.rdRow 1 rfl))) ?_
              clear hF; intro a hF
              refine seq_yl hF (wn_t hF rfl rfl rfl rfl) rfl rfl (yl_fieldAddr hF rfl rfl (fun w => by kernel_rfl : ∀ w, (Instr.fieldAt 25 (.pointer (some ⟨g472, 0, none⟩)) 3).run Try.prog w = .ok (.pointer (some ⟨g472, 3, none⟩)) w)) ?_
              clear hF; intro a hF
              refine seq_yl hF (wn_t hF rfl rfl rfl rfl) rfl rfl (yl_load (fun _ h => h ▸ hS) hF rfl rfl 3 rfl ag23 rfl) ?_
              clear hF; intro a hF
              refine seq_yl hF (wn_t hF rfl rfl rfl rfl) rfl rfl (yl_len hF rfl rfl (fun _ => run_lenRd sl23 (hS.rdRow 6 rfl))) ?_
              clear hF; intro a hF
              refine seq_yl hF (wn_t hF rfl rfl rfl rfl) rfl rfl (yl_bin hF rfl rfl rfl rfl (fun _ => run_inc (by omega))) ?_
              clear hF; intro a hF
              refine seq_yl hF (wn_t hF rfl rfl rfl rfl) rfl rfl (yl_bin hF rfl rfl rfl rfl (fun _ => run_neq)) ?_
              clear hF; intro a hF
              replace hF := fr_set (b' := false) hF (by rw [decide_eq_false_iff_not]; omega)
              refine seq_yl hF (wn_none rfl) rfl rfl (yl_pick (u := _) (v := undef) hF rfl rfl (fun h => by cases h) (fun _ => rfl)) ?_
              clear hF; intro a hF
              refine wpList_nil ?_
              refine then_n ?_
              refine c_cond_f hF rfl ?_
              refine wp_skip ?_
              refine then_n ?_
              refine c_seq ?_
              refine c_region ?_
              refine seq_yl hF (wn_none rfl) rfl rfl (yl_fieldAddr hF rfl rfl (fun w => by kernel_rfl : ∀ w, (Instr.fieldAt 25 (.pointer (some ⟨g616, 0, none⟩)) 3).run Try.prog w = .ok (.pointer (some ⟨g616, 3, none⟩)) w)) ?_
              clear hF; intro a hF
              refine seq_yl hF (wn_none rfl) rfl rfl (yl_load (fun _ h => h ▸ hS) hF rfl rfl 0 rfl ag23 rfl) ?_
              clear hF; intro a hF
              refine seq_yl hF (wn_none rfl) rfl rfl (yl_fieldAddr hF rfl rfl (fun w => by kernel_rfl : ∀ w, (Instr.fieldAt 25 (.pointer (some ⟨g616, 0, none⟩)) 3).run Try.prog w = .ok (.pointer (some ⟨g616, 3, none⟩)) w)) ?_
              clear hF; intro a hF
              refine seq_yl hF (wn_none rfl) rfl rfl (yl_load (fun _ h => h ▸ hS) hF rfl rfl 0 rfl ag23 rfl) ?_
              clear hF; intro a hF
              refine seq_yl hF (wn_none rfl) rfl rfl (yl_len hF rfl rfl (fun _ => run_lenRd sl23 (hS.rdRow 1 rfl))) ?_
              clear hF; intro a hF
              refine seq_yl hF (wn_none rfl) rfl rfl (yl_bin hF rfl rfl rfl rfl (fun _ => run_dec (c := 1) (by omega) (by omega))) ?_
              clear hF; intro a hF
              have hlt_hx617 : ((L612).length - 1) < (L612).length := by first | omega | (simp; done) | (simp; omega)
              obtain ⟨ad618, rfl⟩ := rd_some (hS.rdRow 1 rfl) hlt_hx617
              obtain ⟨x617, hx617⟩ := get_some hlt_hx617
              refine seq_yl hF (wn_none rfl) rfl rfl (yl_indexAddr hF rfl rfl rfl (fun _ => run_idx' sl23 sz39 (hS.rdRow 1 rfl) hlt_hx617)) ?_
              clear hF; intro a hF
              refine seq_yl hF (wn_none rfl) rfl rfl (yl_loadEl (rs := [.int .i64 (x617.f0), .int .i64 (x617.f1), .int .i64 (x617.f2), .int .i64 (x617.f3), .string x617.f4, .bool x617.f5, .int .i64 (x617.f6), .int .i64 (x617.f7), .int .i64 (x617.f8), .int .i64 (x617.f9), .bool x617.f10, .int .i64 (x617.f11)]) hF rfl rfl ag39 sz39 rfl (fun _ h => rd_cells (enc := enc39) (by subst h; exact hS.rdRow 1 rfl) enc39_len hx617)) ?_
              clear hF; intro a hF
              refine seq_wp (wn_none rfl) (wp_alloc (cs := #[_, _, _, _, _, _, _, _, _, _, _, _]) hF hS rfl rfl rfl zr39 rfl ?_)
              clear hF hS; intro a w g619 hF hS
              refine seq_wp (wn_none rfl) (wp_store (cs' := #[_, _, _, _, _, _, _, _, _, _, _, _]) hF hS rfl rfl rfl rfl 0 rfl sz39 (by simp [Value.cells, Value.oneCell']) (by simp [Value.cells]) rfl ?_)
              clear hF hS; intro a w hF hS
              refine wpList_nil ?_
              refine then_n ?_
              refine c_seq ?_
              refine c_seq ?_
              refine c_region ?_
              refine seq_yl hF (wn_none rfl) rfl rfl (yl_fieldAddr hF rfl rfl (fun w => by kernel_rfl : ∀ w, (Instr.fieldAt 39 (.pointer (some ⟨g619, 0, none⟩)) 6).run Try.prog w = .ok (.pointer (some ⟨g619, 6, none⟩)) w)) ?_
              clear hF; intro a hF
              have hxe := Option.some.inj (hx617.symm.trans (show L612[((L612).length - 1)]? = _ by rw [show ((L612).length - 1) = Q.L.length by omega]; exact hlast))
              have hx6 : x617.f6 = max (((now) + ((rnd (x488) (7 : Int))))) Q.f := by rw [hxe]; rfl
              have hx7 : x617.f7 = en := by rw [hxe]; rfl
              refine seq_yl hF (wn_none rfl) rfl rfl (yl_load (fun _ h => h ▸ hS) hF rfl rfl 0 rfl ag3 rfl) ?_
              clear hF; intro a hF
              refine seq_yl hF (wn_none rfl) rfl rfl (yl_move hF rfl rfl) ?_
              clear hF; intro a hF
              refine seq_yl hF (wn_none rfl) rfl rfl (yl_move hF rfl rfl) ?_
              clear hF; intro a hF
              refine seq_yl hF (wn_none rfl) rfl rfl (yl_max2 hF rfl rfl rfl) ?_
              clear hF; intro a hF
              refine seq_yl hF (wn_none rfl) rfl rfl (yl_bin hF rfl rfl rfl rfl (fun _ => run_neq)) ?_
              clear hF; intro a hF
              replace hF := fr_set (b' := false) hF (by rw [decide_eq_false_iff_not]; omega)
              refine wpList_nil ?_
              refine then_n ?_
              refine c_cond_f hF rfl ?_
              refine wp_skip ?_
              refine then_n ?_
              refine c_seq ?_
              refine c_seq ?_
              refine c_region ?_
              refine seq_yl hF (wn_none rfl) rfl rfl (yl_fieldAddr hF rfl rfl (fun w => by kernel_rfl : ∀ w, (Instr.fieldAt 39 (.pointer (some ⟨g588, 0, none⟩)) 8).run Try.prog w = .ok (.pointer (some ⟨g588, 8, none⟩)) w)) ?_
              clear hF; intro a hF
              refine seq_yl hF (wn_none rfl) rfl rfl (yl_fieldAddr hF rfl rfl (fun w => by kernel_rfl : ∀ w, (Instr.fieldAt 34 (.pointer (some ⟨g588, 8, none⟩)) 0).run Try.prog w = .ok (.pointer (some ⟨g588, 8, none⟩)) w)) ?_
              clear hF; intro a hF
              refine seq_yl hF (wn_none rfl) rfl rfl (yl_load (fun _ h => h ▸ hS) hF rfl rfl 3 rfl ag32 rfl) ?_
              clear hF; intro a hF
              refine seq_yl hF (wn_none rfl) rfl rfl (yl_bin hF rfl rfl rfl rfl (fun _ => run_eql)) ?_
              clear hF; intro a hF
              refine wpList_nil ?_
              refine then_n ?_
              refine c_cond hF rfl (fun hc620 => ?_) (fun hc620 => ?_)
              · first | (replace hc620 := of_decide_eq_true hc620) | (replace hc620 := of_decide_eq_false (bnot_t hc620)) | (subst hc620) | (replace hc620 := bnot_t hc620; subst hc620) | (replace hc620 := bnot_t hc620) | skip
                refine c_seq ?_
                refine c_region ?_
                refine seq_yl hF (wn_none rfl) rfl rfl (yl_fieldAddr hF rfl rfl (fun w => by kernel_rfl : ∀ w, (Instr.fieldAt 39 (.pointer (some ⟨g619, 0, none⟩)) 7).run Try.prog w = .ok (.pointer (some ⟨g619, 7, none⟩)) w)) ?_
                clear hF; intro a hF
                refine seq_yl hF (wn_none rfl) rfl rfl (yl_load (fun _ h => h ▸ hS) hF rfl rfl 0 rfl ag3 rfl) ?_
                clear hF; intro a hF
                refine seq_yl hF (wn_none rfl) rfl rfl (yl_bin hF rfl rfl rfl rfl (fun _ => run_neq)) ?_
                clear hF; intro a hF
                replace hF := fr_set (b' := false) hF (by rw [decide_eq_false_iff_not]; omega)
                refine seq_yl hF (wn_none rfl) rfl rfl (yl_move hF rfl rfl) ?_
                clear hF; intro a hF
                refine seq_yl hF (wn_t hF rfl rfl rfl rfl) rfl rfl (yl_fieldAddr hF rfl rfl (fun w => by kernel_rfl : ∀ w, (Instr.fieldAt 25 (.pointer (some ⟨g616, 0, none⟩)) 2).run Try.prog w = .ok (.pointer (some ⟨g616, 2, none⟩)) w)) ?_
                clear hF; intro a hF
                refine seq_yl hF (wn_t hF rfl rfl rfl rfl) rfl rfl (yl_load (fun _ h => h ▸ hS) hF rfl rfl 1 rfl ag3 rfl) ?_
                clear hF; intro a hF
                refine seq_yl hF (wn_t hF rfl rfl rfl rfl) rfl rfl (yl_fieldAddr hF rfl rfl (fun w => by kernel_rfl : ∀ w, (Instr.fieldAt 25 (.pointer (some ⟨g472, 0, none⟩)) 2).run Try.prog w = .ok (.pointer (some ⟨g472, 2, none⟩)) w)) ?_
                clear hF; intro a hF
                refine seq_yl hF (wn_t hF rfl rfl rfl rfl) rfl rfl (yl_load (fun _ h => h ▸ hS) hF rfl rfl 4 rfl ag3 rfl) ?_
                clear hF; intro a hF
                refine seq_yl hF (wn_t hF rfl rfl rfl rfl) rfl rfl (yl_bin hF rfl rfl rfl rfl (fun _ => run_neq)) ?_
                clear hF; intro a hF
                replace hF := fr_set (b' := false) hF (by rw [decide_eq_false_iff_not]; omega)
                refine seq_yl hF (wn_none rfl) rfl rfl (yl_pick (u := _) (v := undef) hF rfl rfl (fun h => by cases h) (fun _ => rfl)) ?_
                clear hF; intro a hF
                refine wpList_nil ?_
                refine then_n ?_
                refine c_cond_f hF rfl ?_
                refine wp_skip ?_
                refine then_n ?_
                refine c_region ?_
                refine seq_yl hF (wn_none rfl) rfl rfl (yl_loadK (rs := [_, _, _, _]) (fun _ h => h ▸ hS) hF rfl rfl 1 rfl ag25 sz25 rfl rfl) ?_
                clear hF; intro a hF
                refine seq_wp (wn_none rfl) (wp_store (cs' := #[_, _, _, _]) hF hS rfl rfl rfl rfl 4 rfl sz25 (by simp [Value.cells, Value.oneCell']) (by simp [Value.cells]) rfl ?_)
                clear hF hS; intro a w hF hS
                refine wpList_nil ?_
                refine inb_n ?_
                refine then_n ?_
                refine c_region ?_
                refine seq_yl hF (wn_none rfl) rfl rfl (yl_move hF rfl rfl) ?_
                clear hF; intro a hF
                refine seq_yl hF (wn_none rfl) rfl rfl (yl_bin hF rfl rfl rfl rfl (fun _ => run_inc (by omega))) ?_
                clear hF; intro a hF
                refine seq_yl hF (wn_none rfl) rfl rfl (yl_assign hF rfl rfl) ?_
                clear hF; intro a hF
                refine wpList_nil ?_
                refine then_n ?_
                exact ⟨_, (by omega), i + 1, (((now) + ((rnd (x488) (7 : Int))))), (last), (Qu.mk (d608) (h609) (f610) L612), (some ad618), cv613, rfl, ⟨by omega, by omega, by omega, by (try dsimp only); omega, hpq, by (try dsimp only); omega⟩, hF.to [0, 4, 5, 7, 9, 10, 11] rfl, (hS.sub [4, 5, 6, 2] (by decide) (by first | rfl | simp) (by simp))⟩
              · first | (replace hc620 := of_decide_eq_false hc620) | (replace hc620 := of_decide_eq_true (bnot_f hc620)) | (subst hc620) | (replace hc620 := bnot_f hc620; subst hc620) | (replace hc620 := bnot_f hc620) | skip
                refine c_seq ?_
                refine c_region ?_
                refine seq_yl hF (wn_none rfl) rfl rfl (yl_fieldAddr hF rfl rfl (fun w => by kernel_rfl : ∀ w, (Instr.fieldAt 39 (.pointer (some ⟨g619, 0, none⟩)) 7).run Try.prog w = .ok (.pointer (some ⟨g619, 7, none⟩)) w)) ?_
                clear hF; intro a hF
                refine seq_yl hF (wn_none rfl) rfl rfl (yl_load (fun _ h => h ▸ hS) hF rfl rfl 0 rfl ag3 rfl) ?_
                clear hF; intro a hF
                refine seq_yl hF (wn_none rfl) rfl rfl (yl_fieldAddr hF rfl rfl (fun w => by kernel_rfl : ∀ w, (Instr.fieldAt 39 (.pointer (some ⟨g619, 0, none⟩)) 6).run Try.prog w = .ok (.pointer (some ⟨g619, 6, none⟩)) w)) ?_
                clear hF; intro a hF
                refine seq_yl hF (wn_none rfl) rfl rfl (yl_load (fun _ h => h ▸ hS) hF rfl rfl 0 rfl ag3 rfl) ?_
                clear hF; intro a hF
                refine seq_yl hF (wn_none rfl) rfl rfl (yl_bin hF rfl rfl rfl rfl (fun _ => run_leq)) ?_
                clear hF; intro a hF
                replace hF := fr_set (b' := false) hF (by rw [decide_eq_false_iff_not]; omega)
                refine seq_yl hF (wn_none rfl) rfl rfl (yl_move hF rfl rfl) ?_
                clear hF; intro a hF
                refine seq_yl hF (wn_t hF rfl rfl rfl rfl) rfl rfl (yl_fieldAddr hF rfl rfl (fun w => by kernel_rfl : ∀ w, (Instr.fieldAt 25 (.pointer (some ⟨g616, 0, none⟩)) 2).run Try.prog w = .ok (.pointer (some ⟨g616, 2, none⟩)) w)) ?_
                clear hF; intro a hF
                refine seq_yl hF (wn_t hF rfl rfl rfl rfl) rfl rfl (yl_load (fun _ h => h ▸ hS) hF rfl rfl 1 rfl ag3 rfl) ?_
                clear hF; intro a hF
                refine seq_yl hF (wn_t hF rfl rfl rfl rfl) rfl rfl (yl_fieldAddr hF rfl rfl (fun w => by kernel_rfl : ∀ w, (Instr.fieldAt 39 (.pointer (some ⟨g619, 0, none⟩)) 7).run Try.prog w = .ok (.pointer (some ⟨g619, 7, none⟩)) w)) ?_
                clear hF; intro a hF
                refine seq_yl hF (wn_t hF rfl rfl rfl rfl) rfl rfl (yl_load (fun _ h => h ▸ hS) hF rfl rfl 0 rfl ag3 rfl) ?_
                clear hF; intro a hF
                refine seq_yl hF (wn_t hF rfl rfl rfl rfl) rfl rfl (yl_bin hF rfl rfl rfl rfl (fun _ => run_neq)) ?_
                clear hF; intro a hF
                replace hF := fr_set (b' := false) hF (by rw [decide_eq_false_iff_not]; omega)
                refine seq_yl hF (wn_none rfl) rfl rfl (yl_pick (u := _) (v := undef) hF rfl rfl (fun h => by cases h) (fun _ => rfl)) ?_
                clear hF; intro a hF
                refine wpList_nil ?_
                refine then_n ?_
                refine c_cond_f hF rfl ?_
                refine c_region ?_
                refine seq_yl hF (wn_none rfl) rfl rfl (yl_fieldAddr hF rfl rfl (fun w => by kernel_rfl : ∀ w, (Instr.fieldAt 39 (.pointer (some ⟨g619, 0, none⟩)) 7).run Try.prog w = .ok (.pointer (some ⟨g619, 7, none⟩)) w)) ?_
                clear hF; intro a hF
                refine seq_yl hF (wn_none rfl) rfl rfl (yl_load (fun _ h => h ▸ hS) hF rfl rfl 0 rfl ag3 rfl) ?_
                clear hF; intro a hF
                refine seq_yl hF (wn_none rfl) rfl rfl (yl_assign hF rfl rfl) ?_
                clear hF; intro a hF
                refine wpList_nil ?_
                refine then_n ?_
                refine c_region ?_
                refine seq_yl hF (wn_none rfl) rfl rfl (yl_loadK (rs := [_, _, _, _]) (fun _ h => h ▸ hS) hF rfl rfl 1 rfl ag25 sz25 rfl rfl) ?_
                clear hF; intro a hF
                refine seq_wp (wn_none rfl) (wp_store (cs' := #[_, _, _, _]) hF hS rfl rfl rfl rfl 4 rfl sz25 (by simp [Value.cells, Value.oneCell']) (by simp [Value.cells]) rfl ?_)
                clear hF hS; intro a w hF hS
                refine wpList_nil ?_
                refine inb_n ?_
                refine then_n ?_
                refine c_region ?_
                refine seq_yl hF (wn_none rfl) rfl rfl (yl_move hF rfl rfl) ?_
                clear hF; intro a hF
                refine seq_yl hF (wn_none rfl) rfl rfl (yl_bin hF rfl rfl rfl rfl (fun _ => run_inc (by omega))) ?_
                clear hF; intro a hF
                refine seq_yl hF (wn_none rfl) rfl rfl (yl_assign hF rfl rfl) ?_
                clear hF; intro a hF
                refine wpList_nil ?_
                refine then_n ?_
                exact ⟨_, (by omega), i + 1, (((now) + ((rnd (x488) (7 : Int))))), (x617.f7), (Qu.mk (d608) (h609) (f610) L612), (some ad618), cv613, rfl, ⟨by omega, by omega, by omega, by (try dsimp only); omega, hpq, by (try dsimp only); omega⟩, hF.to [0, 4, 5, 7, 9, 10, 11] rfl, (hS.sub [4, 5, 6, 2] (by decide) (by first | rfl | simp) (by simp))⟩
        · skip
          refine ha_op 28 rfl (wn_none rfl) (wp_alloc (cs := #[_, _, _, _, _, _, _, _, _, _, _, _]) hF hS rfl rfl rfl zr39 rfl ?_)
          clear hF hS; intro a w g621 hF hS
          replace hSS := hS.sub [3] (by decide) rfl (by simp)
          refine ⟨.inr hSS, ?_⟩
          have hr622 := rnd_bounds (((x488) / 8)) (3 : Int) (by omega)
          refine ha_one 6 (by kernel_rfl) rfl (wn_none rfl) (wp_call (vs := [_, _]) hF rfl rfl rfl rfl cf11 (round_any (((x488) / 8)) (3 : Int) _ (by omega)) ?_)
          clear hF; rintro _ w ⟨rfl, hS1⟩ a hF
          replace hS := hS.callB hS1 rfl; clear hS1
          replace hSS := hS.sub [3] (by decide) rfl (by simp)
          refine ⟨.inr hSS, ?_⟩
          refine ha_yl 7 hF rfl rfl rfl (by kernel_rfl) (by kernel_rfl) (by kernel_rfl) (by decide) (fun _ _ _ h => h) (wn_none rfl) (.inr hSS) (yl_bin hF rfl rfl rfl rfl (fun _ => run_add (by refine ⟨?_, ?_⟩ <;> omega))) ?_
          clear hF; intro a hF
          have hr623 := rnd_bounds (((x488) / 32)) (20 : Int) (by omega)
          refine ha_one 13 (by kernel_rfl) rfl (wn_none rfl) (wp_call (vs := [_, _]) hF rfl rfl rfl rfl cf11 (round_any (((x488) / 32)) (20 : Int) _ (by omega)) ?_)
          clear hF; rintro _ w ⟨rfl, hS1⟩ a hF
          replace hS := hS.callB hS1 rfl; clear hS1
          replace hSS := hS.sub [3] (by decide) rfl (by simp)
          refine ⟨.inr hSS, ?_⟩
          have hr624 := rnd_bounds (((x488) / 1024)) (5 : Int) (by omega)
          refine ha_one 19 (by kernel_rfl) rfl (wn_none rfl) (wp_call (vs := [_, _]) hF rfl rfl rfl rfl cf11 (round_any (((x488) / 1024)) (5 : Int) _ (by omega)) ?_)
          clear hF; rintro _ w ⟨rfl, hS1⟩ a hF
          replace hS := hS.callB hS1 rfl; clear hS1
          replace hSS := hS.sub [3] (by decide) rfl (by simp)
          refine ⟨.inr hSS, ?_⟩
          refine ha_one 25 (by kernel_rfl) rfl (wn_none rfl) (wp_call (vs := [_]) hF rfl rfl rfl rfl cf12 (rule_any (((x488) / 8192)) _) ?_)
          clear hF; rintro _ w ⟨k625, f626, l627, s628, t629, er630, dn631, hf632, dl633, rfl, hb634, hb635, hb636, hb637, hb638, hb639, hb640, hb641, hS1⟩ a hF
          replace hS := hS.callB hS1 rfl; clear hS1
          replace hSS := hS.sub [3] (by decide) rfl (by simp)
          refine ⟨.inr hSS, ?_⟩
          refine ha_yl 26 hF rfl rfl rfl (by kernel_rfl) (by kernel_rfl) (by kernel_rfl) (by decide) (fun _ _ _ h => h) (wn_none rfl) (.inr hSS) (yl_field hF rfl rfl (fun w => by kernel_rfl : ∀ w, (Instr.field 36 (.agg #[.int .i64 (k625), .int .i64 (f626), .int .i64 (l627), .int .i64 (s628), .int .i64 (t629), .int .i64 (er630), .int .i64 (dn631), .bool hf632, .int .i64 (dl633)]) 5).run Try.prog w = .ok (.agg #[.int .i64 (er630), .int .i64 (dn631), .bool hf632, .int .i64 (dl633)]) w)) ?_
          clear hF; intro a hF
          refine ha_yl 27 hF rfl rfl rfl (by kernel_rfl) (by kernel_rfl) (by kernel_rfl) (by decide) (fun _ _ _ h => h) (wn_none rfl) (.inr hSS) (yl_build (parts := [(0, .tmp 42), (1, .tmp 49), (2, .tmp 55), (3, .tmp 61), (8, .tmp 68)]) (vs := [(0, _), (1, _), (2, _), (3, _), (8, _)]) (cs := [_, _, _, _, _, _, _, _, _, _, _, _]) hF bd39 rfl rfl rfl rfl) ?_
          clear hF; intro a hF
          refine ha_one 29 (by kernel_rfl) rfl (wn_none rfl) (wp_store (cs' := #[_, _, _, _, _, _, _, _, _, _, _, _]) hF hS rfl rfl rfl rfl 0 rfl sz39 (by simp [Value.cells, Value.oneCell']) (by simp [Value.cells]) rfl ?_)
          clear hF hS; intro a w hF hS
          replace hSS := hS.sub [3] (by decide) rfl (by simp)
          refine ⟨.inr hSS, ?_⟩
          refine ha_done (by kernel_rfl) ?_ _
          refine then_n ?_
          refine c_seq ?_
          refine c_region ?_
          refine seq_yl hF (wn_none rfl) rfl rfl (yl_loadK (rs := [_, _, _, _]) (fun _ h => h ▸ hS) hF rfl rfl 1 rfl ag25 sz25 rfl rfl) ?_
          clear hF; intro a hF
          refine seq_yl hF (wn_none rfl) rfl rfl (yl_loadK (rs := [_, _, _]) (fun _ h => h ▸ hS) hF rfl rfl 2 rfl ag27 sz27 rfl rfl) ?_
          clear hF; intro a hF
          refine seq_yl hF (wn_none rfl) rfl rfl (yl_move hF rfl rfl) ?_
          clear hF; intro a hF
          refine seq_yl hF (wn_none rfl) rfl rfl (yl_loadK (rs := [_, _, _, _, _, _, _, _, _, _, _, _]) (fun _ h => h ▸ hS) hF rfl rfl 0 rfl ag39 sz39 rfl rfl) ?_
          clear hF; intro a hF
          refine seq_wp (wn_none rfl) (wp_call (vs := [_, _, _, _]) hF rfl rfl rfl rfl cf13 (push_any (Qu.mk (Q.d) (Q.h) (Q.f) Q.L) (b474) (e475) (m476) (((now) + ((rnd (x488) (7 : Int))))) (E39.mk ((i : Nat) : Int) (((1 : Int) + ((rnd (((x488) / 8)) (3 : Int))))) ((rnd (((x488) / 32)) (20 : Int))) ((rnd (((x488) / 1024)) (5 : Int))) (⟨#[]⟩) false (0 : Int) (0 : Int) (er630) (dn631) hf632 (dl633)) _ _ (hS.rdRow 4 rfl) (by first | omega | (simp; done) | (simp; omega))) ?_)
          clear hF; rintro _ w ⟨d642, h643, f644, er645, v647, L646, rfl, hp648, hS1⟩ a hF
          replace hS := hS.callB hS1 rfl; clear hS1
          obtain ⟨Av647, cv647, rfl⟩ := hS.form 0 rfl
          refine seq_yl hF (wn_none rfl) rfl rfl (yl_move hF rfl rfl) ?_
          clear hF; intro a hF
          refine seq_yl hF (wn_none rfl) rfl rfl (yl_extract hF rfl rfl rfl) ?_
          clear hF; intro a hF
          refine seq_yl hF (wn_none rfl) rfl rfl (yl_extract hF rfl rfl rfl) ?_
          clear hF; intro a hF
          have hrun := push_run hp648 hpq0 (by omega) ⟨rfl, by (try dsimp only); omega, by (try dsimp only); omega, by (try dsimp only); omega, by (try dsimp only); omega⟩ (by omega) (by omega) (by omega) (by omega); dsimp only at hrun; rcases hrun with ⟨hfull, her⟩ | ⟨her, hroom, hdd, hlen, hpq, hhh, en, hLL, hlast, hcase⟩
          · skip
            replace hF := fr_seti (b' := 3) hF (by assumption)
            refine seq_wp (wn_none rfl) (wp_alloc (cs := #[_, _, _, _]) hF hS rfl rfl rfl zr25 rfl ?_)
            clear hF hS; intro a w g649 hF hS
            refine seq_wp (wn_none rfl) (wp_store (cs' := #[_, _, _, _]) hF hS rfl rfl rfl rfl 0 rfl sz25 (by simp [Value.cells, Value.oneCell']) (by simp [Value.cells]) rfl ?_)
            clear hF hS; intro a w hF hS
            refine seq_yl hF (wn_none rfl) rfl rfl (yl_assign hF rfl rfl) ?_
            clear hF; intro a hF
            refine wpList_nil ?_
            refine then_n ?_
            refine c_seq ?_
            refine c_seq ?_
            refine c_region ?_
            refine seq_yl hF (wn_none rfl) rfl rfl (yl_fieldAddr hF rfl rfl (fun w => by kernel_rfl : ∀ w, (Instr.fieldAt 25 (.pointer (some ⟨g472, 0, none⟩)) 3).run Try.prog w = .ok (.pointer (some ⟨g472, 3, none⟩)) w)) ?_
            clear hF; intro a hF
            refine seq_yl hF (wn_none rfl) rfl rfl (yl_load (fun _ h => h ▸ hS) hF rfl rfl 3 rfl ag23 rfl) ?_
            clear hF; intro a hF
            refine seq_yl hF (wn_none rfl) rfl rfl (yl_len hF rfl rfl (fun _ => run_lenRd sl23 (hS.rdRow 6 rfl))) ?_
            clear hF; intro a hF
            refine seq_yl hF (wn_none rfl) rfl rfl (yl_fieldAddr hF rfl rfl (fun w => by kernel_rfl : ∀ w, (Instr.fieldAt 25 (.pointer (some ⟨g472, 0, none⟩)) 0).run Try.prog w = .ok (.pointer (some ⟨g472, 0, none⟩)) w)) ?_
            clear hF; intro a hF
            refine seq_yl hF (wn_none rfl) rfl rfl (yl_load (fun _ h => h ▸ hS) hF rfl rfl 3 rfl ag3 rfl) ?_
            clear hF; intro a hF
            refine seq_yl hF (wn_none rfl) rfl rfl (yl_bin hF rfl rfl rfl rfl (fun _ => run_geq)) ?_
            clear hF; intro a hF
            replace hF := fr_set (b' := true) hF (by first | (rw [decide_eq_true_eq]; omega) | (rw [decide_eq_false_iff_not]; omega))
            refine wpList_nil ?_
            refine then_n ?_
            refine c_cond_t hF rfl ?_
            refine c_seq ?_
            refine c_seq ?_
            refine c_region ?_
            refine seq_yl hF (wn_none rfl) rfl rfl (yl_move hF rfl rfl) ?_
            clear hF; intro a hF
            refine seq_yl hF (wn_none rfl) rfl rfl (yl_bin hF rfl rfl rfl rfl (fun _ => run_neq)) ?_
            clear hF; intro a hF
            replace hF := fr_set (b' := false) hF (by decide)
            refine wpList_nil ?_
            refine then_n ?_
            refine c_cond_f hF rfl ?_
            refine wp_skip ?_
            refine then_n ?_
            refine wp_exit ?_
            refine then_x ?_
            refine inb_x ?_
            refine then_n ?_
            refine c_region ?_
            refine seq_yl hF (wn_none rfl) rfl rfl (yl_move hF rfl rfl) ?_
            clear hF; intro a hF
            refine seq_yl hF (wn_none rfl) rfl rfl (yl_bin hF rfl rfl rfl rfl (fun _ => run_inc (by omega))) ?_
            clear hF; intro a hF
            refine seq_yl hF (wn_none rfl) rfl rfl (yl_assign hF rfl rfl) ?_
            clear hF; intro a hF
            refine wpList_nil ?_
            refine then_n ?_
            exact ⟨_, (by omega), i + 1, (((now) + ((rnd (x488) (7 : Int))))), (last), Q, AvQ, cvQ, rfl, ⟨by omega, by omega, by omega, by (try dsimp only); omega, pq_mono hpq0, by (try dsimp only); omega⟩, hF.to [0, 4, 5, 7, 9, 10, 11] rfl, (hS.sub [3, 4, 5, 6] (by decide) (by first | rfl | simp) (by simp))⟩
          · skip
            replace hF := fr_seti (b' := 0) hF (by assumption)
            refine seq_wp (wn_none rfl) (wp_alloc (cs := #[_, _, _, _]) hF hS rfl rfl rfl zr25 rfl ?_)
            clear hF hS; intro a w g650 hF hS
            refine seq_wp (wn_none rfl) (wp_store (cs' := #[_, _, _, _]) hF hS rfl rfl rfl rfl 0 rfl sz25 (by simp [Value.cells, Value.oneCell']) (by simp [Value.cells]) rfl ?_)
            clear hF hS; intro a w hF hS
            refine seq_yl hF (wn_none rfl) rfl rfl (yl_assign hF rfl rfl) ?_
            clear hF; intro a hF
            refine wpList_nil ?_
            refine then_n ?_
            refine c_seq ?_
            refine c_seq ?_
            refine c_region ?_
            refine seq_yl hF (wn_none rfl) rfl rfl (yl_fieldAddr hF rfl rfl (fun w => by kernel_rfl : ∀ w, (Instr.fieldAt 25 (.pointer (some ⟨g472, 0, none⟩)) 3).run Try.prog w = .ok (.pointer (some ⟨g472, 3, none⟩)) w)) ?_
            clear hF; intro a hF
            refine seq_yl hF (wn_none rfl) rfl rfl (yl_load (fun _ h => h ▸ hS) hF rfl rfl 3 rfl ag23 rfl) ?_
            clear hF; intro a hF
            refine seq_yl hF (wn_none rfl) rfl rfl (yl_len hF rfl rfl (fun _ => run_lenRd sl23 (hS.rdRow 6 rfl))) ?_
            clear hF; intro a hF
            refine seq_yl hF (wn_none rfl) rfl rfl (yl_fieldAddr hF rfl rfl (fun w => by kernel_rfl : ∀ w, (Instr.fieldAt 25 (.pointer (some ⟨g472, 0, none⟩)) 0).run Try.prog w = .ok (.pointer (some ⟨g472, 0, none⟩)) w)) ?_
            clear hF; intro a hF
            refine seq_yl hF (wn_none rfl) rfl rfl (yl_load (fun _ h => h ▸ hS) hF rfl rfl 3 rfl ag3 rfl) ?_
            clear hF; intro a hF
            refine seq_yl hF (wn_none rfl) rfl rfl (yl_bin hF rfl rfl rfl rfl (fun _ => run_geq)) ?_
            clear hF; intro a hF
            replace hF := fr_set (b' := false) hF (by first | (rw [decide_eq_true_eq]; omega) | (rw [decide_eq_false_iff_not]; omega))
            refine wpList_nil ?_
            refine then_n ?_
            refine c_cond_f hF rfl ?_
            refine wp_skip ?_
            refine then_n ?_
            refine c_seq ?_
            refine c_seq ?_
            refine c_region ?_
            refine seq_yl hF (wn_none rfl) rfl rfl (yl_move hF rfl rfl) ?_
            clear hF; intro a hF
            refine seq_yl hF (wn_none rfl) rfl rfl (yl_bin hF rfl rfl rfl rfl (fun _ => run_neq)) ?_
            clear hF; intro a hF
            replace hF := fr_set (b' := false) hF (by decide)
            refine seq_yl hF (wn_none rfl) rfl rfl (yl_move hF rfl rfl) ?_
            clear hF; intro a hF
            refine seq_yl hF (wn_t hF rfl rfl rfl rfl) rfl rfl (yl_fieldAddr hF rfl rfl (fun w => by kernel_rfl : ∀ w, (Instr.fieldAt 25 (.pointer (some ⟨g650, 0, none⟩)) 3).run Try.prog w = .ok (.pointer (some ⟨g650, 3, none⟩)) w)) ?_
            clear hF; intro a hF
            refine seq_yl hF (wn_t hF rfl rfl rfl rfl) rfl rfl (yl_load (fun _ h => h ▸ hS) hF rfl rfl 0 rfl ag23 rfl) ?_
            clear hF; intro a hF
            refine seq_yl hF (wn_t hF rfl rfl rfl rfl) rfl rfl (yl_len hF rfl rfl (fun _ => run_lenRd sl23 (hS.rdRow 1 rfl))) ?_
            clear hF; intro a hF
            refine seq_yl hF (wn_t hF rfl rfl rfl rfl) rfl rfl (yl_fieldAddr hF rfl rfl (fun w => by kernel_rfl : ∀ w, (Instr.fieldAt 25 (.pointer (some ⟨g472, 0, none⟩)) 3).run Try.prog w = .ok (.pointer (some ⟨g472, 3, none⟩)) w)) ?_
            clear hF; intro a hF
            refine seq_yl hF (wn_t hF rfl rfl rfl rfl) rfl rfl (yl_load (fun _ h => h ▸ hS) hF rfl rfl 3 rfl ag23 rfl) ?_
            clear hF; intro a hF
            refine seq_yl hF (wn_t hF rfl rfl rfl rfl) rfl rfl (yl_len hF rfl rfl (fun _ => run_lenRd sl23 (hS.rdRow 6 rfl))) ?_
            clear hF; intro a hF
            refine seq_yl hF (wn_t hF rfl rfl rfl rfl) rfl rfl (yl_bin hF rfl rfl rfl rfl (fun _ => run_inc (by omega))) ?_
            clear hF; intro a hF
            refine seq_yl hF (wn_t hF rfl rfl rfl rfl) rfl rfl (yl_bin hF rfl rfl rfl rfl (fun _ => run_neq)) ?_
            clear hF; intro a hF
            replace hF := fr_set (b' := false) hF (by rw [decide_eq_false_iff_not]; omega)
            refine seq_yl hF (wn_none rfl) rfl rfl (yl_pick (u := _) (v := undef) hF rfl rfl (fun h => by cases h) (fun _ => rfl)) ?_
            clear hF; intro a hF
            refine wpList_nil ?_
            refine then_n ?_
            refine c_cond_f hF rfl ?_
            refine wp_skip ?_
            refine then_n ?_
            refine c_seq ?_
            refine c_region ?_
            refine seq_yl hF (wn_none rfl) rfl rfl (yl_fieldAddr hF rfl rfl (fun w => by kernel_rfl : ∀ w, (Instr.fieldAt 25 (.pointer (some ⟨g650, 0, none⟩)) 3).run Try.prog w = .ok (.pointer (some ⟨g650, 3, none⟩)) w)) ?_
            clear hF; intro a hF
            refine seq_yl hF (wn_none rfl) rfl rfl (yl_load (fun _ h => h ▸ hS) hF rfl rfl 0 rfl ag23 rfl) ?_
            clear hF; intro a hF
            refine seq_yl hF (wn_none rfl) rfl rfl (yl_fieldAddr hF rfl rfl (fun w => by kernel_rfl : ∀ w, (Instr.fieldAt 25 (.pointer (some ⟨g650, 0, none⟩)) 3).run Try.prog w = .ok (.pointer (some ⟨g650, 3, none⟩)) w)) ?_
            clear hF; intro a hF
            refine seq_yl hF (wn_none rfl) rfl rfl (yl_load (fun _ h => h ▸ hS) hF rfl rfl 0 rfl ag23 rfl) ?_
            clear hF; intro a hF
            refine seq_yl hF (wn_none rfl) rfl rfl (yl_len hF rfl rfl (fun _ => run_lenRd sl23 (hS.rdRow 1 rfl))) ?_
            clear hF; intro a hF
            refine seq_yl hF (wn_none rfl) rfl rfl (yl_bin hF rfl rfl rfl rfl (fun _ => run_dec (c := 1) (by omega) (by omega))) ?_
            clear hF; intro a hF
            have hlt_hx651 : ((L646).length - 1) < (L646).length := by first | omega | (simp; done) | (simp; omega)
            obtain ⟨ad652, rfl⟩ := rd_some (hS.rdRow 1 rfl) hlt_hx651
            obtain ⟨x651, hx651⟩ := get_some hlt_hx651
            refine seq_yl hF (wn_none rfl) rfl rfl (yl_indexAddr hF rfl rfl rfl (fun _ => run_idx' sl23 sz39 (hS.rdRow 1 rfl) hlt_hx651)) ?_
            clear hF; intro a hF
            refine seq_yl hF (wn_none rfl) rfl rfl (yl_loadEl (rs := [.int .i64 (x651.f0), .int .i64 (x651.f1), .int .i64 (x651.f2), .int .i64 (x651.f3), .string x651.f4, .bool x651.f5, .int .i64 (x651.f6), .int .i64 (x651.f7), .int .i64 (x651.f8), .int .i64 (x651.f9), .bool x651.f10, .int .i64 (x651.f11)]) hF rfl rfl ag39 sz39 rfl (fun _ h => rd_cells (enc := enc39) (by subst h; exact hS.rdRow 1 rfl) enc39_len hx651)) ?_
            clear hF; intro a hF
            refine seq_wp (wn_none rfl) (wp_alloc (cs := #[_, _, _, _, _, _, _, _, _, _, _, _]) hF hS rfl rfl rfl zr39 rfl ?_)
            clear hF hS; intro a w g653 hF hS
            refine seq_wp (wn_none rfl) (wp_store (cs' := #[_, _, _, _, _, _, _, _, _, _, _, _]) hF hS rfl rfl rfl rfl 0 rfl sz39 (by simp [Value.cells, Value.oneCell']) (by simp [Value.cells]) rfl ?_)
            clear hF hS; intro a w hF hS
            refine wpList_nil ?_
            refine then_n ?_
            refine c_seq ?_
            refine c_seq ?_
            refine c_region ?_
            refine seq_yl hF (wn_none rfl) rfl rfl (yl_fieldAddr hF rfl rfl (fun w => by kernel_rfl : ∀ w, (Instr.fieldAt 39 (.pointer (some ⟨g653, 0, none⟩)) 6).run Try.prog w = .ok (.pointer (some ⟨g653, 6, none⟩)) w)) ?_
            clear hF; intro a hF
            have hxe := Option.some.inj (hx651.symm.trans (show L646[((L646).length - 1)]? = _ by rw [show ((L646).length - 1) = Q.L.length by omega]; exact hlast))
            have hx6 : x651.f6 = max (((now) + ((rnd (x488) (7 : Int))))) Q.f := by rw [hxe]; rfl
            have hx7 : x651.f7 = en := by rw [hxe]; rfl
            refine seq_yl hF (wn_none rfl) rfl rfl (yl_load (fun _ h => h ▸ hS) hF rfl rfl 0 rfl ag3 rfl) ?_
            clear hF; intro a hF
            refine seq_yl hF (wn_none rfl) rfl rfl (yl_move hF rfl rfl) ?_
            clear hF; intro a hF
            refine seq_yl hF (wn_none rfl) rfl rfl (yl_move hF rfl rfl) ?_
            clear hF; intro a hF
            refine seq_yl hF (wn_none rfl) rfl rfl (yl_max2 hF rfl rfl rfl) ?_
            clear hF; intro a hF
            refine seq_yl hF (wn_none rfl) rfl rfl (yl_bin hF rfl rfl rfl rfl (fun _ => run_neq)) ?_
            clear hF; intro a hF
            replace hF := fr_set (b' := false) hF (by rw [decide_eq_false_iff_not]; omega)
            refine wpList_nil ?_
            refine then_n ?_
            refine c_cond_f hF rfl ?_
            refine wp_skip ?_
            refine then_n ?_
            refine c_seq ?_
            refine c_seq ?_
            refine c_region ?_
            refine seq_yl hF (wn_none rfl) rfl rfl (yl_fieldAddr hF rfl rfl (fun w => by kernel_rfl : ∀ w, (Instr.fieldAt 39 (.pointer (some ⟨g621, 0, none⟩)) 8).run Try.prog w = .ok (.pointer (some ⟨g621, 8, none⟩)) w)) ?_
            clear hF; intro a hF
            refine seq_yl hF (wn_none rfl) rfl rfl (yl_fieldAddr hF rfl rfl (fun w => by kernel_rfl : ∀ w, (Instr.fieldAt 34 (.pointer (some ⟨g621, 8, none⟩)) 0).run Try.prog w = .ok (.pointer (some ⟨g621, 8, none⟩)) w)) ?_
            clear hF; intro a hF
            refine seq_yl hF (wn_none rfl) rfl rfl (yl_load (fun _ h => h ▸ hS) hF rfl rfl 3 rfl ag32 rfl) ?_
            clear hF; intro a hF
            refine seq_yl hF (wn_none rfl) rfl rfl (yl_bin hF rfl rfl rfl rfl (fun _ => run_eql)) ?_
            clear hF; intro a hF
            refine wpList_nil ?_
            refine then_n ?_
            refine c_cond hF rfl (fun hc654 => ?_) (fun hc654 => ?_)
            · first | (replace hc654 := of_decide_eq_true hc654) | (replace hc654 := of_decide_eq_false (bnot_t hc654)) | (subst hc654) | (replace hc654 := bnot_t hc654; subst hc654) | (replace hc654 := bnot_t hc654) | skip
              refine c_seq ?_
              refine c_region ?_
              refine seq_yl hF (wn_none rfl) rfl rfl (yl_fieldAddr hF rfl rfl (fun w => by kernel_rfl : ∀ w, (Instr.fieldAt 39 (.pointer (some ⟨g653, 0, none⟩)) 7).run Try.prog w = .ok (.pointer (some ⟨g653, 7, none⟩)) w)) ?_
              clear hF; intro a hF
              refine seq_yl hF (wn_none rfl) rfl rfl (yl_load (fun _ h => h ▸ hS) hF rfl rfl 0 rfl ag3 rfl) ?_
              clear hF; intro a hF
              refine seq_yl hF (wn_none rfl) rfl rfl (yl_bin hF rfl rfl rfl rfl (fun _ => run_neq)) ?_
              clear hF; intro a hF
              replace hF := fr_set (b' := false) hF (by rw [decide_eq_false_iff_not]; omega)
              refine seq_yl hF (wn_none rfl) rfl rfl (yl_move hF rfl rfl) ?_
              clear hF; intro a hF
              refine seq_yl hF (wn_t hF rfl rfl rfl rfl) rfl rfl (yl_fieldAddr hF rfl rfl (fun w => by kernel_rfl : ∀ w, (Instr.fieldAt 25 (.pointer (some ⟨g650, 0, none⟩)) 2).run Try.prog w = .ok (.pointer (some ⟨g650, 2, none⟩)) w)) ?_
              clear hF; intro a hF
              refine seq_yl hF (wn_t hF rfl rfl rfl rfl) rfl rfl (yl_load (fun _ h => h ▸ hS) hF rfl rfl 1 rfl ag3 rfl) ?_
              clear hF; intro a hF
              refine seq_yl hF (wn_t hF rfl rfl rfl rfl) rfl rfl (yl_fieldAddr hF rfl rfl (fun w => by kernel_rfl : ∀ w, (Instr.fieldAt 25 (.pointer (some ⟨g472, 0, none⟩)) 2).run Try.prog w = .ok (.pointer (some ⟨g472, 2, none⟩)) w)) ?_
              clear hF; intro a hF
              refine seq_yl hF (wn_t hF rfl rfl rfl rfl) rfl rfl (yl_load (fun _ h => h ▸ hS) hF rfl rfl 4 rfl ag3 rfl) ?_
              clear hF; intro a hF
              refine seq_yl hF (wn_t hF rfl rfl rfl rfl) rfl rfl (yl_bin hF rfl rfl rfl rfl (fun _ => run_neq)) ?_
              clear hF; intro a hF
              replace hF := fr_set (b' := false) hF (by rw [decide_eq_false_iff_not]; omega)
              refine seq_yl hF (wn_none rfl) rfl rfl (yl_pick (u := _) (v := undef) hF rfl rfl (fun h => by cases h) (fun _ => rfl)) ?_
              clear hF; intro a hF
              refine wpList_nil ?_
              refine then_n ?_
              refine c_cond_f hF rfl ?_
              refine wp_skip ?_
              refine then_n ?_
              refine c_region ?_
              refine seq_yl hF (wn_none rfl) rfl rfl (yl_loadK (rs := [_, _, _, _]) (fun _ h => h ▸ hS) hF rfl rfl 1 rfl ag25 sz25 rfl rfl) ?_
              clear hF; intro a hF
              refine seq_wp (wn_none rfl) (wp_store (cs' := #[_, _, _, _]) hF hS rfl rfl rfl rfl 4 rfl sz25 (by simp [Value.cells, Value.oneCell']) (by simp [Value.cells]) rfl ?_)
              clear hF hS; intro a w hF hS
              refine wpList_nil ?_
              refine inb_n ?_
              refine then_n ?_
              refine c_region ?_
              refine seq_yl hF (wn_none rfl) rfl rfl (yl_move hF rfl rfl) ?_
              clear hF; intro a hF
              refine seq_yl hF (wn_none rfl) rfl rfl (yl_bin hF rfl rfl rfl rfl (fun _ => run_inc (by omega))) ?_
              clear hF; intro a hF
              refine seq_yl hF (wn_none rfl) rfl rfl (yl_assign hF rfl rfl) ?_
              clear hF; intro a hF
              refine wpList_nil ?_
              refine then_n ?_
              exact ⟨_, (by omega), i + 1, (((now) + ((rnd (x488) (7 : Int))))), (last), (Qu.mk (d642) (h643) (f644) L646), (some ad652), cv647, rfl, ⟨by omega, by omega, by omega, by (try dsimp only); omega, hpq, by (try dsimp only); omega⟩, hF.to [0, 4, 5, 7, 9, 10, 11] rfl, (hS.sub [4, 5, 6, 2] (by decide) (by first | rfl | simp) (by simp))⟩
            · first | (replace hc654 := of_decide_eq_false hc654) | (replace hc654 := of_decide_eq_true (bnot_f hc654)) | (subst hc654) | (replace hc654 := bnot_f hc654; subst hc654) | (replace hc654 := bnot_f hc654) | skip
              refine c_seq ?_
              refine c_region ?_
              refine seq_yl hF (wn_none rfl) rfl rfl (yl_fieldAddr hF rfl rfl (fun w => by kernel_rfl : ∀ w, (Instr.fieldAt 39 (.pointer (some ⟨g653, 0, none⟩)) 7).run Try.prog w = .ok (.pointer (some ⟨g653, 7, none⟩)) w)) ?_
              clear hF; intro a hF
              refine seq_yl hF (wn_none rfl) rfl rfl (yl_load (fun _ h => h ▸ hS) hF rfl rfl 0 rfl ag3 rfl) ?_
              clear hF; intro a hF
              refine seq_yl hF (wn_none rfl) rfl rfl (yl_fieldAddr hF rfl rfl (fun w => by kernel_rfl : ∀ w, (Instr.fieldAt 39 (.pointer (some ⟨g653, 0, none⟩)) 6).run Try.prog w = .ok (.pointer (some ⟨g653, 6, none⟩)) w)) ?_
              clear hF; intro a hF
              refine seq_yl hF (wn_none rfl) rfl rfl (yl_load (fun _ h => h ▸ hS) hF rfl rfl 0 rfl ag3 rfl) ?_
              clear hF; intro a hF
              refine seq_yl hF (wn_none rfl) rfl rfl (yl_bin hF rfl rfl rfl rfl (fun _ => run_leq)) ?_
              clear hF; intro a hF
              replace hF := fr_set (b' := false) hF (by rw [decide_eq_false_iff_not]; omega)
              refine seq_yl hF (wn_none rfl) rfl rfl (yl_move hF rfl rfl) ?_
              clear hF; intro a hF
              refine seq_yl hF (wn_t hF rfl rfl rfl rfl) rfl rfl (yl_fieldAddr hF rfl rfl (fun w => by kernel_rfl : ∀ w, (Instr.fieldAt 25 (.pointer (some ⟨g650, 0, none⟩)) 2).run Try.prog w = .ok (.pointer (some ⟨g650, 2, none⟩)) w)) ?_
              clear hF; intro a hF
              refine seq_yl hF (wn_t hF rfl rfl rfl rfl) rfl rfl (yl_load (fun _ h => h ▸ hS) hF rfl rfl 1 rfl ag3 rfl) ?_
              clear hF; intro a hF
              refine seq_yl hF (wn_t hF rfl rfl rfl rfl) rfl rfl (yl_fieldAddr hF rfl rfl (fun w => by kernel_rfl : ∀ w, (Instr.fieldAt 39 (.pointer (some ⟨g653, 0, none⟩)) 7).run Try.prog w = .ok (.pointer (some ⟨g653, 7, none⟩)) w)) ?_
              clear hF; intro a hF
              refine seq_yl hF (wn_t hF rfl rfl rfl rfl) rfl rfl (yl_load (fun _ h => h ▸ hS) hF rfl rfl 0 rfl ag3 rfl) ?_
              clear hF; intro a hF
              refine seq_yl hF (wn_t hF rfl rfl rfl rfl) rfl rfl (yl_bin hF rfl rfl rfl rfl (fun _ => run_neq)) ?_
              clear hF; intro a hF
              replace hF := fr_set (b' := false) hF (by rw [decide_eq_false_iff_not]; omega)
              refine seq_yl hF (wn_none rfl) rfl rfl (yl_pick (u := _) (v := undef) hF rfl rfl (fun h => by cases h) (fun _ => rfl)) ?_
              clear hF; intro a hF
              refine wpList_nil ?_
              refine then_n ?_
              refine c_cond_f hF rfl ?_
              refine c_region ?_
              refine seq_yl hF (wn_none rfl) rfl rfl (yl_fieldAddr hF rfl rfl (fun w => by kernel_rfl : ∀ w, (Instr.fieldAt 39 (.pointer (some ⟨g653, 0, none⟩)) 7).run Try.prog w = .ok (.pointer (some ⟨g653, 7, none⟩)) w)) ?_
              clear hF; intro a hF
              refine seq_yl hF (wn_none rfl) rfl rfl (yl_load (fun _ h => h ▸ hS) hF rfl rfl 0 rfl ag3 rfl) ?_
              clear hF; intro a hF
              refine seq_yl hF (wn_none rfl) rfl rfl (yl_assign hF rfl rfl) ?_
              clear hF; intro a hF
              refine wpList_nil ?_
              refine then_n ?_
              refine c_region ?_
              refine seq_yl hF (wn_none rfl) rfl rfl (yl_loadK (rs := [_, _, _, _]) (fun _ h => h ▸ hS) hF rfl rfl 1 rfl ag25 sz25 rfl rfl) ?_
              clear hF; intro a hF
              refine seq_wp (wn_none rfl) (wp_store (cs' := #[_, _, _, _]) hF hS rfl rfl rfl rfl 4 rfl sz25 (by simp [Value.cells, Value.oneCell']) (by simp [Value.cells]) rfl ?_)
              clear hF hS; intro a w hF hS
              refine wpList_nil ?_
              refine inb_n ?_
              refine then_n ?_
              refine c_region ?_
              refine seq_yl hF (wn_none rfl) rfl rfl (yl_move hF rfl rfl) ?_
              clear hF; intro a hF
              refine seq_yl hF (wn_none rfl) rfl rfl (yl_bin hF rfl rfl rfl rfl (fun _ => run_inc (by omega))) ?_
              clear hF; intro a hF
              refine seq_yl hF (wn_none rfl) rfl rfl (yl_assign hF rfl rfl) ?_
              clear hF; intro a hF
              refine wpList_nil ?_
              refine then_n ?_
              exact ⟨_, (by omega), i + 1, (((now) + ((rnd (x488) (7 : Int))))), (x651.f7), (Qu.mk (d642) (h643) (f644) L646), (some ad652), cv647, rfl, ⟨by omega, by omega, by omega, by (try dsimp only); omega, hpq, by (try dsimp only); omega⟩, hF.to [0, 4, 5, 7, 9, 10, 11] rfl, (hS.sub [4, 5, 6, 2] (by decide) (by first | rfl | simp) (by simp))⟩
      · first | (replace hc487 := of_decide_eq_false hc487) | (replace hc487 := of_decide_eq_true (bnot_f hc487)) | (subst hc487) | (replace hc487 := bnot_f hc487; subst hc487) | (replace hc487 := bnot_f hc487) | skip
        refine wp_exit ?_
        refine then_x ?_
        refine then_x ?_
        refine inb_x ?_
        refine then_n ?_
        refine c_seq ?_
        refine c_region ?_
        refine seq_wp (wn_none rfl) (wp_call (vs := []) hF rfl rfl rfl rfl cf14 (awake_any _) ?_)
        clear hF; rintro _ w ⟨rfl, hS1⟩ a hF
        replace hS := hS.callB hS1 rfl; clear hS1
        refine seq_yl hF (wn_none rfl) rfl rfl (yl_assign hF rfl rfl) ?_
        clear hF; intro a hF
        refine wpList_nil ?_
        refine then_n ?_
        refine wp_ret ?_
        refine ret_t hF rfl rfl ?_
        exact ⟨_, rfl, rfl, (hS.sub [] (by decide) (by first | rfl | simp) (by simp))⟩
    · first | (replace hc486 := of_decide_eq_false hc486) | (replace hc486 := of_decide_eq_true (bnot_f hc486)) | (subst hc486) | (replace hc486 := bnot_f hc486; subst hc486) | (replace hc486 := bnot_f hc486) | skip
      refine seq_skip hF (wn_f hF rfl rfl rfl rfl) rfl rfl ?_
      clear hF; intro a hF
      refine seq_skip hF (wn_f hF rfl rfl rfl rfl) rfl rfl ?_
      clear hF; intro a hF
      refine seq_yl hF (wn_none rfl) rfl rfl (yl_pick (u := _) (v := undef) hF rfl rfl (fun h => by cases h) (fun _ => rfl)) ?_
      clear hF; intro a hF
      refine wpList_nil ?_
      refine then_n ?_
      refine c_cond_f hF rfl ?_
      refine wp_exit ?_
      refine then_x ?_
      refine then_x ?_
      refine inb_x ?_
      refine then_n ?_
      refine c_seq ?_
      refine c_region ?_
      refine seq_wp (wn_none rfl) (wp_call (vs := []) hF rfl rfl rfl rfl cf14 (awake_any _) ?_)
      clear hF; rintro _ w ⟨rfl, hS1⟩ a hF
      replace hS := hS.callB hS1 rfl; clear hS1
      refine seq_yl hF (wn_none rfl) rfl rfl (yl_assign hF rfl rfl) ?_
      clear hF; intro a hF
      refine wpList_nil ?_
      refine then_n ?_
      refine wp_ret ?_
      refine ret_t hF rfl rfl ?_
      exact ⟨_, rfl, rfl, (hS.sub [] (by decide) (by first | rfl | simp) (by simp))⟩

end Go.Proofs.Ytjjjmpkmjicpbaa

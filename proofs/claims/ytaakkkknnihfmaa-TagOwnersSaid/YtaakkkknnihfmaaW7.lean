/- walks, printed by wip/gen -/
import Derived.Test.YtaakkkknnihfmaaW5
namespace Go.Proofs.Ytaakkkknnihfmaa
open Go.RowKit
set_option linter.unusedVariables false
set_option linter.unusedSimpArgs false

set_option maxHeartbeats 1000000 in
set_option maxRecDepth 100000 in
theorem made_any (n : Int) (v : Value) (L : List Int) (w0 : World) (hv : Rd w0 1 v (L).length (cells encI (L))) (hL : L.length ≤ 9223372036854775807) :
    Fn Try.prog 7 #[.int .i64 n, v] w0 (fun v w' => ∃ (v1 : Value) (M : List Int) (r c : Int), v = .agg #[v1, .int .i64 r, .int .i64 c] ∧ validT M r c ∧ (L = [] → ∀ x ∈ M, x = -1) ∧ Sat w0 w' [.row 3 1 v1 (M).length (cells encI (M))]) := by
  obtain ⟨Av, cv, rfl⟩ := Rd.form hv
  refine c_enter (N := 80) (l := [_, _]) Try.func7 rfl rfl (fun a w hF hS => ?_)
  replace hS := hS.addRo hv
  refine c_seq ?_
  refine c_region ?_
  refine seq_wp (wn_none rfl) (wp_alloc (cs := #[_, _, _]) hF hS rfl rfl rfl zr24 rfl ?_)
  clear hF hS; intro a w g197 hF hS
  refine wpList_nil ?_
  refine then_n ?_
  refine c_seq ?_
  refine c_region ?_
  refine seq_yl hF (wn_none rfl) rfl rfl (yl_move hF rfl rfl) ?_
  clear hF; intro a hF
  have hr198 := rnd_bounds (n) (8 : Int) (by omega)
  refine seq_wp (wn_none rfl) (wp_call (vs := [_, _]) hF rfl rfl rfl rfl cf8 (round_any (n) (8 : Int) _ (by omega)) ?_)
  clear hF; rintro _ w ⟨rfl, hS1⟩ a hF
  replace hS := hS.callB hS1 rfl; clear hS1
  refine seq_yl hF (wn_none rfl) rfl rfl (yl_bin hF rfl rfl rfl rfl (fun _ => run_add (by refine ⟨?_, ?_⟩ <;> omega))) ?_
  clear hF; intro a hF
  refine seq_yl hF (wn_none rfl) rfl rfl (yl_move hF rfl rfl) ?_
  clear hF; intro a hF
  refine seq_yl hF (wn_none rfl) rfl rfl (yl_bin hF rfl rfl rfl rfl (fun _ => run_shr (c := 3) (d := 8) (by decide) (by decide))) ?_
  clear hF; intro a hF
  have hr199 := rnd_bounds (((n) / 8)) (2 : Int) (by omega)
  refine seq_wp (wn_none rfl) (wp_call (vs := [_, _]) hF rfl rfl rfl rfl cf8 (round_any (((n) / 8)) (2 : Int) _ (by omega)) ?_)
  clear hF; rintro _ w ⟨rfl, hS1⟩ a hF
  replace hS := hS.callB hS1 rfl; clear hS1
  refine seq_yl hF (wn_none rfl) rfl rfl (yl_move hF rfl rfl) ?_
  clear hF; intro a hF
  refine seq_yl hF (wn_none rfl) rfl rfl (yl_bin hF rfl rfl rfl rfl (fun _ => run_shr (c := 4) (d := 16) (by decide) (by decide))) ?_
  clear hF; intro a hF
  have hr200 := rnd_bounds (((n) / 16)) (4 : Int) (by omega)
  refine seq_wp (wn_none rfl) (wp_call (vs := [_, _]) hF rfl rfl rfl rfl cf8 (round_any (((n) / 16)) (4 : Int) _ (by omega)) ?_)
  clear hF; rintro _ w ⟨rfl, hS1⟩ a hF
  replace hS := hS.callB hS1 rfl; clear hS1
  refine seq_yl hF (wn_none rfl) rfl rfl (yl_bin hF rfl rfl rfl rfl (fun _ => run_add (by refine ⟨?_, ?_⟩ <;> omega))) ?_
  clear hF; intro a hF
  refine seq_wp (wn_none rfl) (wp_call (vs := [_, _, _]) hF rfl rfl rfl rfl cf14 (new2 (((1 : Int) + ((rnd (n) (8 : Int))))) ((rnd (((n) / 8)) (2 : Int))) (((1 : Int) + ((rnd (((n) / 16)) (4 : Int))))) _) ?_)
  clear hF; rintro _ w ⟨v201, L202, r203, c204, b205, rfl, hp206, hS1⟩ a hF
  replace hS := hS.callB hS1 rfl; clear hS1
  obtain ⟨Av201, cv201, rfl⟩ := hS.form 0 rfl
  have hlhp206 := new_len hp206
  refine seq_yl hF (wn_none rfl) rfl rfl (yl_move hF rfl rfl) ?_
  clear hF; intro a hF
  refine seq_yl hF (wn_none rfl) rfl rfl (yl_extract hF rfl rfl rfl) ?_
  clear hF; intro a hF
  refine seq_yl hF (wn_none rfl) rfl rfl (yl_extract hF rfl rfl rfl) ?_
  clear hF; intro a hF
  refine seq_wp (wn_none rfl) (wp_alloc (cs := #[_, _, _]) hF hS rfl rfl rfl zr24 rfl ?_)
  clear hF hS; intro a w g207 hF hS
  refine seq_wp (wn_none rfl) (wp_store (cs' := #[_, _, _]) hF hS rfl rfl rfl rfl 0 rfl sz24 (by simp [Value.cells, Value.oneCell']) (by simp [Value.cells]) rfl ?_)
  clear hF hS; intro a w hF hS
  refine seq_yl hF (wn_none rfl) rfl rfl (yl_assign hF rfl rfl) ?_
  clear hF; intro a hF
  refine wpList_nil ?_
  refine then_n ?_
  refine c_seq ?_
  refine c_seq ?_
  refine c_region ?_
  refine seq_yl hF (wn_none rfl) rfl rfl (yl_fieldAddr hF rfl rfl (fun w => by kernel_rfl : ∀ w, (Instr.fieldAt 24 (.pointer (some ⟨g207, 0, none⟩)) 0).run Try.prog w = .ok (.pointer (some ⟨g207, 0, none⟩)) w)) ?_
  clear hF; intro a hF
  refine seq_yl hF (wn_none rfl) rfl rfl (yl_load (fun _ h => h ▸ hS) hF rfl rfl 0 rfl ag22 rfl) ?_
  clear hF; intro a hF
  refine seq_yl hF (wn_none rfl) rfl rfl (yl_len hF rfl rfl (fun _ => run_lenRd sl22 (hS.rdRow 1 rfl))) ?_
  clear hF; intro a hF
  refine seq_yl hF (wn_none rfl) rfl rfl (yl_bin hF rfl rfl rfl rfl (fun _ => run_eql)) ?_
  clear hF; intro a hF
  refine wpList_nil ?_
  refine then_n ?_
  refine c_cond hF rfl (fun hc208 => ?_) (fun hc208 => ?_)
  · first | (replace hc208 := of_decide_eq_true hc208) | (replace hc208 := of_decide_eq_false (bnot_t hc208)) | (subst hc208) | (replace hc208 := bnot_t hc208; subst hc208) | (replace hc208 := bnot_t hc208) | skip
    refine c_region ?_
    refine seq_wp (wn_none rfl) (wp_call (vs := [_, _, _]) hF rfl rfl rfl rfl cf14 (new2 (4 : Int) (1 : Int) (2 : Int) _) ?_)
    clear hF; rintro _ w ⟨v209, L210, r211, c212, b213, rfl, hp214, hS1⟩ a hF
    replace hS := hS.callB hS1 rfl; clear hS1
    obtain ⟨Av209, cv209, rfl⟩ := hS.form 0 rfl
    have hlhp214 := new_len hp214
    refine seq_yl hF (wn_none rfl) rfl rfl (yl_move hF rfl rfl) ?_
    clear hF; intro a hF
    refine seq_yl hF (wn_none rfl) rfl rfl (yl_extract hF rfl rfl rfl) ?_
    clear hF; intro a hF
    refine seq_yl hF (wn_none rfl) rfl rfl (yl_extract hF rfl rfl rfl) ?_
    clear hF; intro a hF
    refine seq_wp (wn_none rfl) (wp_store (cs' := #[_, _, _]) hF hS rfl rfl rfl rfl 1 rfl sz24 (by simp [Value.cells, Value.oneCell']) (by simp [Value.cells]) rfl ?_)
    clear hF hS; intro a w hF hS
    refine wpList_nil ?_
    refine then_n ?_
    refine c_seq ?_
    refine c_seq ?_
    refine c_region ?_
    refine seq_yl hF (wn_none rfl) rfl rfl (yl_assign hF rfl rfl) ?_
    clear hF; intro a hF
    refine wpList_nil ?_
    refine then_n ?_
    refine wp_block ?_
    have hnw := new_4 hp214
    refine c_loop (fun m a w => ∃ (i : Nat) (M : List Int) (AvM : Option Addr) (cvM : Nat), m = 12 - i ∧ (i ≤ 12 ∧ validT M (r211) (c212) ∧ (L = [] → ∀ x ∈ M, x = -1)) ∧ Fr 80 a [(1, .slice Av (L).length cv), (4, .pointer (some ⟨g197, 0, none⟩)), (5, .pointer (some ⟨g207, 0, none⟩)), (7, .int .i64 ((i : Nat) : Int))] ∧ Sat w0 w (.ro 1 (.slice Av (L).length cv) (L).length (cells encI (L)) :: .box g197 24 #[.slice none 0 0, .int .i64 (0 : Int), .int .i64 (0 : Int)] :: .box g207 24 #[.slice AvM (M).length cvM, .int .i64 (r211), .int .i64 (c212)] :: .row 3 1 (.slice AvM (M).length cvM) (M).length (cells encI (M)) :: [])) (12 - 0) ?_ ?_
    · exact ⟨0, L210, Av209, cv209, rfl, ⟨by omega, hnw.1, fun _ => hnw.2⟩, hF.to [1, 4, 5, 7] rfl, (hS.sub [4, 3, 1, 0] (by decide) (by first | rfl | simp) (by simp))⟩
    · clear hF hS; try clear hSS
      clear a w; rintro m a w ⟨i, M, AvM, cvM, rfl, hinv, hF, hS⟩
      obtain ⟨hi, hval, hnl⟩ := hinv
      have hv8 := hval.1
      refine c_seq ?_
      refine c_seq ?_
      refine c_region ?_
      refine seq_yl hF (wn_none rfl) rfl rfl (yl_move hF rfl rfl) ?_
      clear hF; intro a hF
      refine seq_yl hF (wn_none rfl) rfl rfl (yl_move hF rfl rfl) ?_
      clear hF; intro a hF
      refine seq_yl hF (wn_none rfl) rfl rfl (yl_len hF rfl rfl (fun _ => run_lenRd sl22 (hS.rdRo 0 rfl))) ?_
      clear hF; intro a hF
      refine seq_yl hF (wn_none rfl) rfl rfl (yl_bin hF rfl rfl rfl rfl (fun _ => run_lss)) ?_
      clear hF; intro a hF
      refine seq_yl hF (wn_none rfl) rfl rfl (yl_move hF rfl rfl) ?_
      clear hF; intro a hF
      refine fr_split hF (fun hc215 hF => ?_) (fun hc215 hF => ?_)
      · first | (replace hc215 := of_decide_eq_true hc215) | (replace hc215 := of_decide_eq_false (bnot_t hc215)) | (subst hc215) | (replace hc215 := bnot_t hc215; subst hc215) | (replace hc215 := bnot_t hc215) | skip
        refine seq_yl hF (wn_t hF rfl rfl rfl rfl) rfl rfl (yl_move hF rfl rfl) ?_
        clear hF; intro a hF
        refine seq_yl hF (wn_t hF rfl rfl rfl rfl) rfl rfl (yl_bin hF rfl rfl rfl rfl (fun _ => run_lss)) ?_
        clear hF; intro a hF
        refine seq_yl hF (wn_none rfl) rfl rfl (yl_pick (u := _) (v := undef) hF rfl rfl (fun _ => rfl) (fun h => by cases h)) ?_
        clear hF; intro a hF
        refine wpList_nil ?_
        refine then_n ?_
        refine c_cond hF rfl (fun hc216 => ?_) (fun hc216 => ?_)
        · first | (replace hc216 := of_decide_eq_true hc216) | (replace hc216 := of_decide_eq_false (bnot_t hc216)) | (subst hc216) | (replace hc216 := bnot_t hc216; subst hc216) | (replace hc216 := bnot_t hc216) | skip
          refine wp_skip ?_
          refine then_n ?_
          refine c_seq ?_
          refine wp_block ?_
          refine c_seq ?_
          refine c_region ?_
          refine seq_yl hF (wn_none rfl) rfl rfl (yl_move hF rfl rfl) ?_
          clear hF; intro a hF
          refine seq_yl hF (wn_none rfl) rfl rfl (yl_move hF rfl rfl) ?_
          clear hF; intro a hF
          have hlt_hx217 : i < (L).length := by first | omega | (simp; done) | (simp; omega)
          obtain ⟨ad218, rfl⟩ := rd_some (hS.rdRo 0 rfl) hlt_hx217
          obtain ⟨x217, hx217⟩ := get_some hlt_hx217
          refine seq_yl hF (wn_none rfl) rfl rfl (yl_indexAddr hF rfl rfl rfl (fun _ => run_idx' sl22 sz3 (hS.rdRo 0 rfl) hlt_hx217)) ?_
          clear hF; intro a hF
          refine seq_yl hF (wn_none rfl) rfl rfl (yl_loadAt hF rfl rfl ag3 (fun _ h => rd_cell0 (enc := encI) (by subst h; exact hS.rdRo 0 rfl) encI_len hx217 rfl rfl)) ?_
          clear hF; intro a hF
          have hr219 := rnd_bounds (x217) (3 : Int) (by omega)
          refine seq_wp (wn_none rfl) (wp_call (vs := [_, _]) hF rfl rfl rfl rfl cf8 (round_any (x217) (3 : Int) _ (by omega)) ?_)
          clear hF; rintro _ w ⟨rfl, hS1⟩ a hF
          replace hS := hS.callB hS1 rfl; clear hS1
          refine seq_yl hF (wn_none rfl) rfl rfl (yl_bin hF rfl rfl rfl rfl (fun _ => run_eql)) ?_
          clear hF; intro a hF
          refine wpList_nil ?_
          refine then_n ?_
          refine c_cond hF rfl (fun hc220 => ?_) (fun hc220 => ?_)
          · first | (replace hc220 := of_decide_eq_true hc220) | (replace hc220 := of_decide_eq_false (bnot_t hc220)) | (subst hc220) | (replace hc220 := bnot_t hc220; subst hc220) | (replace hc220 := bnot_t hc220) | skip
            refine ha_startS hS [2, 0] 14 (by kernel_rfl) ?_; clear hS; intro w hS
            have hSS := hS.sub [2, 0] (by decide) rfl (by simp)
            refine ha_y 1 hF rfl rfl rfl (wn_none rfl) (.inr hSS) (yl_move hF rfl rfl) ?_
            clear hF; intro a hF
            refine ha_y 2 hF rfl rfl rfl (wn_none rfl) (.inr hSS) (yl_move hF rfl rfl) ?_
            clear hF; intro a hF
            refine ha_y 3 hF rfl rfl rfl (wn_none rfl) (.inr hSS) (yl_indexAddr hF rfl rfl rfl (fun _ => run_idx' sl22 sz3 (hS.rdRo 0 rfl) hlt_hx217)) ?_
            clear hF; intro a hF
            refine ha_y 6 hF rfl rfl rfl (wn_none rfl) (.inr hSS) (yl_fieldAddr hF rfl rfl (fun w => by kernel_rfl : ∀ w, (Instr.fieldAt 24 (.pointer (some ⟨g207, 0, none⟩)) 0).run Try.prog w = .ok (.pointer (some ⟨g207, 0, none⟩)) w)) ?_
            clear hF; intro a hF
            refine ha_l 0 hF rfl rfl rfl (wn_none rfl) hSS (yl_loadK (rs := [_, _, _]) (fun _ h => h) hF rfl rfl 0 rfl ag24 sz24 rfl rfl) ?_
            clear hF; intro a hF
            refine ha_l 4 hF rfl rfl rfl (wn_none rfl) hSS (yl_loadAt hF rfl rfl ag3 (fun _ h => rd_cell0 (enc := encI) (Sat.rdRo h 1 rfl) encI_len hx217 rfl rfl)) ?_
            clear hF; intro a hF
            refine ha_y 5 hF rfl rfl rfl (wn_none rfl) (.inr hSS) (yl_bin hF rfl rfl rfl rfl (fun _ => run_shr (c := 2) (d := 4) (by decide) (by decide))) ?_
            clear hF; intro a hF
            refine ha_l 7 hF rfl rfl rfl (wn_none rfl) hSS (yl_load (fun _ h => h) hF rfl rfl 0 rfl ag22 rfl) ?_
            clear hF; intro a hF
            refine ha_y 8 hF rfl rfl rfl (wn_none rfl) (.inr hSS) (yl_len hF rfl rfl (fun _ => run_lenRd sl22 (hS.rdRow 3 rfl))) ?_
            clear hF; intro a hF
            have hr221 := rnd_bounds (((x217) / 4)) (((M).length : Nat) : Int) (by omega)
            refine ha_one 9 (by kernel_rfl) rfl (wn_none rfl) (wp_call (vs := [_, _]) hF rfl rfl rfl rfl cf8 (round_any (((x217) / 4)) (((M).length : Nat) : Int) _ (by omega)) ?_)
            clear hF; rintro _ w ⟨rfl, hS1⟩ a hF
            replace hS := hS.callB hS1 rfl; clear hS1
            replace hSS := hS.sub [2, 0] (by decide) rfl (by simp)
            refine ⟨.inr hSS, ?_⟩
            refine ha_one 10 (by kernel_rfl) rfl (wn_none rfl) (wp_call (vs := [_, _]) hF rfl rfl rfl rfl cf17 (put2 _ M (r211) (c212) ((rnd (((x217) / 4)) (((M).length : Nat) : Int))) _ (hS.rdRow 3 rfl) (by first | omega | (simp; done) | (simp; omega))) ?_)
            clear hF; rintro _ w ⟨v222, L223, b224, rfl, hp225, hS1⟩ a hF
            replace hS := hS.callB hS1 rfl; clear hS1
            obtain ⟨Av222, cv222, rfl⟩ := hS.form 0 rfl
            have hlhp225 := put_len hp225
            replace hSS := hS.sub [3, 1] (by decide) rfl (by simp)
            refine ⟨.inr hSS, ?_⟩
            refine ha_y 11 hF rfl rfl rfl (wn_none rfl) (.inr hSS) (yl_move hF rfl rfl) ?_
            clear hF; intro a hF
            refine ha_y 12 hF rfl rfl rfl (wn_none rfl) (.inr hSS) (yl_extract hF rfl rfl rfl) ?_
            clear hF; intro a hF
            refine ha_y 13 hF rfl rfl rfl (wn_none rfl) (.inr hSS) (yl_extract hF rfl rfl rfl) ?_
            clear hF; intro a hF
            refine ha_one 14 (by kernel_rfl) rfl (wn_none rfl) (wp_store (cs' := #[_, _, _]) hF hS rfl rfl rfl rfl 3 rfl sz24 (by simp [Value.cells, Value.oneCell']) (by simp [Value.cells]) rfl ?_)
            clear hF hS; intro a w hF hS
            refine ⟨.inl (by kernel_rfl), ?_⟩
            refine ha_done (by kernel_rfl) ?_ _
            refine inb_n ?_
            refine then_n ?_
            refine c_region ?_
            refine seq_yl hF (wn_none rfl) rfl rfl (yl_move hF rfl rfl) ?_
            clear hF; intro a hF
            refine seq_yl hF (wn_none rfl) rfl rfl (yl_bin hF rfl rfl rfl rfl (fun _ => run_inc (by omega))) ?_
            clear hF; intro a hF
            refine seq_yl hF (wn_none rfl) rfl rfl (yl_assign hF rfl rfl) ?_
            clear hF; intro a hF
            refine wpList_nil ?_
            refine then_n ?_
            exact ⟨_, (by omega), i + 1, L223, Av222, cv222, rfl, ⟨by omega, (by first | exact put_valid hp225 hval | exact get_valid rfl hval), fun h9 => by have h8 : L.length = 0 := congrArg List.length h9; omega⟩, hF.to [1, 4, 5, 7] rfl, (hS.sub [1, 2, 3, 0] (by decide) (by first | rfl | simp) (by simp))⟩
          · first | (replace hc220 := of_decide_eq_false hc220) | (replace hc220 := of_decide_eq_true (bnot_f hc220)) | (subst hc220) | (replace hc220 := bnot_f hc220; subst hc220) | (replace hc220 := bnot_f hc220) | skip
            refine ha_startS hS [2, 0] 19 (by kernel_rfl) ?_; clear hS; intro w hS
            have hSS := hS.sub [2, 0] (by decide) rfl (by simp)
            refine ha_y 1 hF rfl rfl rfl (wn_none rfl) (.inr hSS) (yl_move hF rfl rfl) ?_
            clear hF; intro a hF
            refine ha_y 2 hF rfl rfl rfl (wn_none rfl) (.inr hSS) (yl_move hF rfl rfl) ?_
            clear hF; intro a hF
            refine ha_y 3 hF rfl rfl rfl (wn_none rfl) (.inr hSS) (yl_indexAddr hF rfl rfl rfl (fun _ => run_idx' sl22 sz3 (hS.rdRo 0 rfl) hlt_hx217)) ?_
            clear hF; intro a hF
            refine ha_y 7 hF rfl rfl rfl (wn_none rfl) (.inr hSS) (yl_move hF rfl rfl) ?_
            clear hF; intro a hF
            refine ha_y 8 hF rfl rfl rfl (wn_none rfl) (.inr hSS) (yl_move hF rfl rfl) ?_
            clear hF; intro a hF
            refine ha_y 9 hF rfl rfl rfl (wn_none rfl) (.inr hSS) (yl_indexAddr hF rfl rfl rfl (fun _ => run_idx' sl22 sz3 (hS.rdRo 0 rfl) hlt_hx217)) ?_
            clear hF; intro a hF
            refine ha_l 0 hF rfl rfl rfl (wn_none rfl) hSS (yl_loadK (rs := [_, _, _]) (fun _ h => h) hF rfl rfl 0 rfl ag24 sz24 rfl rfl) ?_
            clear hF; intro a hF
            refine ha_l 4 hF rfl rfl rfl (wn_none rfl) hSS (yl_loadAt hF rfl rfl ag3 (fun _ h => rd_cell0 (enc := encI) (Sat.rdRo h 1 rfl) encI_len hx217 rfl rfl)) ?_
            clear hF; intro a hF
            refine ha_y 5 hF rfl rfl rfl (wn_none rfl) (.inr hSS) (yl_bin hF rfl rfl rfl rfl (fun _ => run_shr (c := 2) (d := 4) (by decide) (by decide))) ?_
            clear hF; intro a hF
            refine ha_l 10 hF rfl rfl rfl (wn_none rfl) hSS (yl_loadAt hF rfl rfl ag3 (fun _ h => rd_cell0 (enc := encI) (Sat.rdRo h 1 rfl) encI_len hx217 rfl rfl)) ?_
            clear hF; intro a hF
            refine ha_y 11 hF rfl rfl rfl (wn_none rfl) (.inr hSS) (yl_bin hF rfl rfl rfl rfl (fun _ => run_shr (c := 5) (d := 32) (by decide) (by decide))) ?_
            clear hF; intro a hF
            have hr226 := rnd_bounds (((x217) / 4)) (5 : Int) (by omega)
            refine ha_one 6 (by kernel_rfl) rfl (wn_none rfl) (wp_call (vs := [_, _]) hF rfl rfl rfl rfl cf8 (round_any (((x217) / 4)) (5 : Int) _ (by omega)) ?_)
            clear hF; rintro _ w ⟨rfl, hS1⟩ a hF
            replace hS := hS.callB hS1 rfl; clear hS1
            replace hSS := hS.sub [2, 0] (by decide) rfl (by simp)
            refine ⟨.inr hSS, ?_⟩
            have hr227 := rnd_bounds (((x217) / 32)) (4 : Int) (by omega)
            refine ha_one 12 (by kernel_rfl) rfl (wn_none rfl) (wp_call (vs := [_, _]) hF rfl rfl rfl rfl cf8 (round_any (((x217) / 32)) (4 : Int) _ (by omega)) ?_)
            clear hF; rintro _ w ⟨rfl, hS1⟩ a hF
            replace hS := hS.callB hS1 rfl; clear hS1
            replace hSS := hS.sub [2, 0] (by decide) rfl (by simp)
            refine ⟨.inr hSS, ?_⟩
            refine ha_y 13 hF rfl rfl rfl (wn_none rfl) (.inr hSS) (yl_bin hF rfl rfl rfl rfl (fun _ => run_eql)) ?_
            clear hF; intro a hF
            refine ha_one 14 (by kernel_rfl) rfl (wn_none rfl) (wp_call (vs := [_, _, _]) hF rfl rfl rfl rfl cf15 (get2 _ M (r211) (c212) ((rnd (((x217) / 4)) (5 : Int))) (decide (((rnd (((x217) / 32)) (4 : Int))) = (0 : Int))) _ (hS.rdRow 3 rfl) (by first | omega | (simp; done) | (simp; omega))) ?_)
            clear hF; rintro _ w ⟨v228, L229, k230, b231, rfl, hp232, hS1⟩ a hF
            replace hS := hS.callB hS1 rfl; clear hS1
            obtain ⟨Av228, cv228, rfl⟩ := hS.form 0 rfl
            have hlhp232 := get_len hp232
            replace hSS := hS.sub [3, 1] (by decide) rfl (by simp)
            refine ⟨.inr hSS, ?_⟩
            refine ha_y 15 hF rfl rfl rfl (wn_none rfl) (.inr hSS) (yl_move hF rfl rfl) ?_
            clear hF; intro a hF
            refine ha_y 16 hF rfl rfl rfl (wn_none rfl) (.inr hSS) (yl_extract hF rfl rfl rfl) ?_
            clear hF; intro a hF
            refine ha_y 17 hF rfl rfl rfl (wn_none rfl) (.inr hSS) (yl_extract hF rfl rfl rfl) ?_
            clear hF; intro a hF
            refine ha_y 18 hF rfl rfl rfl (wn_none rfl) (.inr hSS) (yl_extract hF rfl rfl rfl) ?_
            clear hF; intro a hF
            refine ha_one 19 (by kernel_rfl) rfl (wn_none rfl) (wp_store (cs' := #[_, _, _]) hF hS rfl rfl rfl rfl 3 rfl sz24 (by simp [Value.cells, Value.oneCell']) (by simp [Value.cells]) rfl ?_)
            clear hF hS; intro a w hF hS
            refine ⟨.inl (by kernel_rfl), ?_⟩
            refine ha_done (by kernel_rfl) ?_ _
            refine inb_n ?_
            refine then_n ?_
            refine c_region ?_
            refine seq_yl hF (wn_none rfl) rfl rfl (yl_move hF rfl rfl) ?_
            clear hF; intro a hF
            refine seq_yl hF (wn_none rfl) rfl rfl (yl_bin hF rfl rfl rfl rfl (fun _ => run_inc (by omega))) ?_
            clear hF; intro a hF
            refine seq_yl hF (wn_none rfl) rfl rfl (yl_assign hF rfl rfl) ?_
            clear hF; intro a hF
            refine wpList_nil ?_
            refine then_n ?_
            exact ⟨_, (by omega), i + 1, L229, Av228, cv228, rfl, ⟨by omega, (by first | exact put_valid hp225 hval | exact get_valid hp232 hval), fun h9 => by have h8 : L.length = 0 := congrArg List.length h9; omega⟩, hF.to [1, 4, 5, 7] rfl, (hS.sub [1, 2, 3, 0] (by decide) (by first | rfl | simp) (by simp))⟩
        · first | (replace hc216 := of_decide_eq_false hc216) | (replace hc216 := of_decide_eq_true (bnot_f hc216)) | (subst hc216) | (replace hc216 := bnot_f hc216; subst hc216) | (replace hc216 := bnot_f hc216) | skip
          refine wp_exit ?_
          refine then_x ?_
          refine then_x ?_
          refine inb_x ?_
          refine then_n ?_
          refine c_seq ?_
          refine c_region ?_
          refine seq_yl hF (wn_none rfl) rfl rfl (yl_loadK (rs := [_, _, _]) (fun _ h => h ▸ hS) hF rfl rfl 2 rfl ag24 sz24 rfl rfl) ?_
          clear hF; intro a hF
          refine seq_wp (wn_none rfl) (wp_store (cs' := #[_, _, _]) hF hS rfl rfl rfl rfl 1 rfl sz24 (by simp [Value.cells, Value.oneCell']) (by simp [Value.cells]) rfl ?_)
          clear hF hS; intro a w hF hS
          refine wpList_nil ?_
          refine then_n ?_
          refine wp_ret ?_
          refine ret_c hF rfl (resC hS rfl 1 rfl ag24 sz24) ?_
          exact ⟨_, rfl, _, _, _, _, rfl, hval, hnl, (hS.sub [3] (by decide) (by first | rfl | simp) (by simp))⟩
      · first | (replace hc215 := of_decide_eq_false hc215) | (replace hc215 := of_decide_eq_true (bnot_f hc215)) | (subst hc215) | (replace hc215 := bnot_f hc215; subst hc215) | (replace hc215 := bnot_f hc215) | skip
        refine seq_skip hF (wn_f hF rfl rfl rfl rfl) rfl rfl ?_
        clear hF; intro a hF
        refine seq_skip hF (wn_f hF rfl rfl rfl rfl) rfl rfl ?_
        clear hF; intro a hF
        refine seq_yl hF (wn_none rfl) rfl rfl (yl_pick (u := _) (v := undef) hF rfl rfl (fun h => by cases h) (fun _ => rfl)) ?_
        clear hF; intro a hF
        refine wpList_nil ?_
        refine then_n ?_
        refine c_cond_f hF rfl ?_
        refine wp_exit ?_
        refine then_x ?_
        refine then_x ?_
        refine inb_x ?_
        refine then_n ?_
        refine c_seq ?_
        refine c_region ?_
        refine seq_yl hF (wn_none rfl) rfl rfl (yl_loadK (rs := [_, _, _]) (fun _ h => h ▸ hS) hF rfl rfl 2 rfl ag24 sz24 rfl rfl) ?_
        clear hF; intro a hF
        refine seq_wp (wn_none rfl) (wp_store (cs' := #[_, _, _]) hF hS rfl rfl rfl rfl 1 rfl sz24 (by simp [Value.cells, Value.oneCell']) (by simp [Value.cells]) rfl ?_)
        clear hF hS; intro a w hF hS
        refine wpList_nil ?_
        refine then_n ?_
        refine wp_ret ?_
        refine ret_c hF rfl (resC hS rfl 1 rfl ag24 sz24) ?_
        exact ⟨_, rfl, _, _, _, _, rfl, hval, hnl, (hS.sub [3] (by decide) (by first | rfl | simp) (by simp))⟩
  · first | (replace hc208 := of_decide_eq_false hc208) | (replace hc208 := of_decide_eq_true (bnot_f hc208)) | (subst hc208) | (replace hc208 := bnot_f hc208; subst hc208) | (replace hc208 := bnot_f hc208) | skip
    refine wp_skip ?_
    refine then_n ?_
    refine c_seq ?_
    refine c_seq ?_
    refine c_region ?_
    refine seq_yl hF (wn_none rfl) rfl rfl (yl_assign hF rfl rfl) ?_
    clear hF; intro a hF
    refine wpList_nil ?_
    refine then_n ?_
    refine wp_block ?_
    have hnw := new_ok hp206 (by omega)
    refine c_loop (fun m a w => ∃ (i : Nat) (M : List Int) (AvM : Option Addr) (cvM : Nat), m = 12 - i ∧ (i ≤ 12 ∧ validT M (r203) (c204) ∧ (L = [] → ∀ x ∈ M, x = -1)) ∧ Fr 80 a [(1, .slice Av (L).length cv), (4, .pointer (some ⟨g197, 0, none⟩)), (5, .pointer (some ⟨g207, 0, none⟩)), (7, .int .i64 ((i : Nat) : Int))] ∧ Sat w0 w (.ro 1 (.slice Av (L).length cv) (L).length (cells encI (L)) :: .box g197 24 #[.slice none 0 0, .int .i64 (0 : Int), .int .i64 (0 : Int)] :: .box g207 24 #[.slice AvM (M).length cvM, .int .i64 (r203), .int .i64 (c204)] :: .row 3 1 (.slice AvM (M).length cvM) (M).length (cells encI (M)) :: [])) (12 - 0) ?_ ?_
    · exact ⟨0, L202, Av201, cv201, rfl, ⟨by omega, hnw.1, fun _ => hnw.2⟩, hF.to [1, 4, 5, 7] rfl, (hS.sub [3, 2, 0, 1] (by decide) (by first | rfl | simp) (by simp))⟩
    · clear hF hS; try clear hSS
      clear a w; rintro m a w ⟨i, M, AvM, cvM, rfl, hinv, hF, hS⟩
      obtain ⟨hi, hval, hnl⟩ := hinv
      have hv8 := hval.1
      refine c_seq ?_
      refine c_seq ?_
      refine c_region ?_
      refine seq_yl hF (wn_none rfl) rfl rfl (yl_move hF rfl rfl) ?_
      clear hF; intro a hF
      refine seq_yl hF (wn_none rfl) rfl rfl (yl_move hF rfl rfl) ?_
      clear hF; intro a hF
      refine seq_yl hF (wn_none rfl) rfl rfl (yl_len hF rfl rfl (fun _ => run_lenRd sl22 (hS.rdRo 0 rfl))) ?_
      clear hF; intro a hF
      refine seq_yl hF (wn_none rfl) rfl rfl (yl_bin hF rfl rfl rfl rfl (fun _ => run_lss)) ?_
      clear hF; intro a hF
      refine seq_yl hF (wn_none rfl) rfl rfl (yl_move hF rfl rfl) ?_
      clear hF; intro a hF
      refine fr_split hF (fun hc233 hF => ?_) (fun hc233 hF => ?_)
      · first | (replace hc233 := of_decide_eq_true hc233) | (replace hc233 := of_decide_eq_false (bnot_t hc233)) | (subst hc233) | (replace hc233 := bnot_t hc233; subst hc233) | (replace hc233 := bnot_t hc233) | skip
        refine seq_yl hF (wn_t hF rfl rfl rfl rfl) rfl rfl (yl_move hF rfl rfl) ?_
        clear hF; intro a hF
        refine seq_yl hF (wn_t hF rfl rfl rfl rfl) rfl rfl (yl_bin hF rfl rfl rfl rfl (fun _ => run_lss)) ?_
        clear hF; intro a hF
        refine seq_yl hF (wn_none rfl) rfl rfl (yl_pick (u := _) (v := undef) hF rfl rfl (fun _ => rfl) (fun h => by cases h)) ?_
        clear hF; intro a hF
        refine wpList_nil ?_
        refine then_n ?_
        refine c_cond hF rfl (fun hc234 => ?_) (fun hc234 => ?_)
        · first | (replace hc234 := of_decide_eq_true hc234) | (replace hc234 := of_decide_eq_false (bnot_t hc234)) | (subst hc234) | (replace hc234 := bnot_t hc234; subst hc234) | (replace hc234 := bnot_t hc234) | skip
          refine wp_skip ?_
          refine then_n ?_
          refine c_seq ?_
          refine wp_block ?_
          refine c_seq ?_
          refine c_region ?_
          refine seq_yl hF (wn_none rfl) rfl rfl (yl_move hF rfl rfl) ?_
          clear hF; intro a hF
          refine seq_yl hF (wn_none rfl) rfl rfl (yl_move hF rfl rfl) ?_
          clear hF; intro a hF
          have hlt_hx235 : i < (L).length := by first | omega | (simp; done) | (simp; omega)
          obtain ⟨ad236, rfl⟩ := rd_some (hS.rdRo 0 rfl) hlt_hx235
          obtain ⟨x235, hx235⟩ := get_some hlt_hx235
          refine seq_yl hF (wn_none rfl) rfl rfl (yl_indexAddr hF rfl rfl rfl (fun _ => run_idx' sl22 sz3 (hS.rdRo 0 rfl) hlt_hx235)) ?_
          clear hF; intro a hF
          refine seq_yl hF (wn_none rfl) rfl rfl (yl_loadAt hF rfl rfl ag3 (fun _ h => rd_cell0 (enc := encI) (by subst h; exact hS.rdRo 0 rfl) encI_len hx235 rfl rfl)) ?_
          clear hF; intro a hF
          have hr237 := rnd_bounds (x235) (3 : Int) (by omega)
          refine seq_wp (wn_none rfl) (wp_call (vs := [_, _]) hF rfl rfl rfl rfl cf8 (round_any (x235) (3 : Int) _ (by omega)) ?_)
          clear hF; rintro _ w ⟨rfl, hS1⟩ a hF
          replace hS := hS.callB hS1 rfl; clear hS1
          refine seq_yl hF (wn_none rfl) rfl rfl (yl_bin hF rfl rfl rfl rfl (fun _ => run_eql)) ?_
          clear hF; intro a hF
          refine wpList_nil ?_
          refine then_n ?_
          refine c_cond hF rfl (fun hc238 => ?_) (fun hc238 => ?_)
          · first | (replace hc238 := of_decide_eq_true hc238) | (replace hc238 := of_decide_eq_false (bnot_t hc238)) | (subst hc238) | (replace hc238 := bnot_t hc238; subst hc238) | (replace hc238 := bnot_t hc238) | skip
            refine ha_startS hS [2, 0] 14 (by kernel_rfl) ?_; clear hS; intro w hS
            have hSS := hS.sub [2, 0] (by decide) rfl (by simp)
            refine ha_y 1 hF rfl rfl rfl (wn_none rfl) (.inr hSS) (yl_move hF rfl rfl) ?_
            clear hF; intro a hF
            refine ha_y 2 hF rfl rfl rfl (wn_none rfl) (.inr hSS) (yl_move hF rfl rfl) ?_
            clear hF; intro a hF
            refine ha_y 3 hF rfl rfl rfl (wn_none rfl) (.inr hSS) (yl_indexAddr hF rfl rfl rfl (fun _ => run_idx' sl22 sz3 (hS.rdRo 0 rfl) hlt_hx235)) ?_
            clear hF; intro a hF
            refine ha_y 6 hF rfl rfl rfl (wn_none rfl) (.inr hSS) (yl_fieldAddr hF rfl rfl (fun w => by kernel_rfl : ∀ w, (Instr.fieldAt 24 (.pointer (some ⟨g207, 0, none⟩)) 0).run Try.prog w = .ok (.pointer (some ⟨g207, 0, none⟩)) w)) ?_
            clear hF; intro a hF
            refine ha_l 0 hF rfl rfl rfl (wn_none rfl) hSS (yl_loadK (rs := [_, _, _]) (fun _ h => h) hF rfl rfl 0 rfl ag24 sz24 rfl rfl) ?_
            clear hF; intro a hF
            refine ha_l 4 hF rfl rfl rfl (wn_none rfl) hSS (yl_loadAt hF rfl rfl ag3 (fun _ h => rd_cell0 (enc := encI) (Sat.rdRo h 1 rfl) encI_len hx235 rfl rfl)) ?_
            clear hF; intro a hF
            refine ha_y 5 hF rfl rfl rfl (wn_none rfl) (.inr hSS) (yl_bin hF rfl rfl rfl rfl (fun _ => run_shr (c := 2) (d := 4) (by decide) (by decide))) ?_
            clear hF; intro a hF
            refine ha_l 7 hF rfl rfl rfl (wn_none rfl) hSS (yl_load (fun _ h => h) hF rfl rfl 0 rfl ag22 rfl) ?_
            clear hF; intro a hF
            refine ha_y 8 hF rfl rfl rfl (wn_none rfl) (.inr hSS) (yl_len hF rfl rfl (fun _ => run_lenRd sl22 (hS.rdRow 3 rfl))) ?_
            clear hF; intro a hF
            have hr239 := rnd_bounds (((x235) / 4)) (((M).length : Nat) : Int) (by omega)
            refine ha_one 9 (by kernel_rfl) rfl (wn_none rfl) (wp_call (vs := [_, _]) hF rfl rfl rfl rfl cf8 (round_any (((x235) / 4)) (((M).length : Nat) : Int) _ (by omega)) ?_)
            clear hF; rintro _ w ⟨rfl, hS1⟩ a hF
            replace hS := hS.callB hS1 rfl; clear hS1
            replace hSS := hS.sub [2, 0] (by decide) rfl (by simp)
            refine ⟨.inr hSS, ?_⟩
            refine ha_one 10 (by kernel_rfl) rfl (wn_none rfl) (wp_call (vs := [_, _]) hF rfl rfl rfl rfl cf17 (put2 _ M (r203) (c204) ((rnd (((x235) / 4)) (((M).length : Nat) : Int))) _ (hS.rdRow 3 rfl) (by first | omega | (simp; done) | (simp; omega))) ?_)
            clear hF; rintro _ w ⟨v240, L241, b242, rfl, hp243, hS1⟩ a hF
            replace hS := hS.callB hS1 rfl; clear hS1
            obtain ⟨Av240, cv240, rfl⟩ := hS.form 0 rfl
            have hlhp243 := put_len hp243
            replace hSS := hS.sub [3, 1] (by decide) rfl (by simp)
            refine ⟨.inr hSS, ?_⟩
            refine ha_y 11 hF rfl rfl rfl (wn_none rfl) (.inr hSS) (yl_move hF rfl rfl) ?_
            clear hF; intro a hF
            refine ha_y 12 hF rfl rfl rfl (wn_none rfl) (.inr hSS) (yl_extract hF rfl rfl rfl) ?_
            clear hF; intro a hF
            refine ha_y 13 hF rfl rfl rfl (wn_none rfl) (.inr hSS) (yl_extract hF rfl rfl rfl) ?_
            clear hF; intro a hF
            refine ha_one 14 (by kernel_rfl) rfl (wn_none rfl) (wp_store (cs' := #[_, _, _]) hF hS rfl rfl rfl rfl 3 rfl sz24 (by simp [Value.cells, Value.oneCell']) (by simp [Value.cells]) rfl ?_)
            clear hF hS; intro a w hF hS
            refine ⟨.inl (by kernel_rfl), ?_⟩
            refine ha_done (by kernel_rfl) ?_ _
            refine inb_n ?_
            refine then_n ?_
            refine c_region ?_
            refine seq_yl hF (wn_none rfl) rfl rfl (yl_move hF rfl rfl) ?_
            clear hF; intro a hF
            refine seq_yl hF (wn_none rfl) rfl rfl (yl_bin hF rfl rfl rfl rfl (fun _ => run_inc (by omega))) ?_
            clear hF; intro a hF
            refine seq_yl hF (wn_none rfl) rfl rfl (yl_assign hF rfl rfl) ?_
            clear hF; intro a hF
            refine wpList_nil ?_
            refine then_n ?_
            exact ⟨_, (by omega), i + 1, L241, Av240, cv240, rfl, ⟨by omega, (by first | exact put_valid hp243 hval | exact get_valid hp232 hval), fun h9 => by have h8 : L.length = 0 := congrArg List.length h9; omega⟩, hF.to [1, 4, 5, 7] rfl, (hS.sub [1, 2, 3, 0] (by decide) (by first | rfl | simp) (by simp))⟩
          · first | (replace hc238 := of_decide_eq_false hc238) | (replace hc238 := of_decide_eq_true (bnot_f hc238)) | (subst hc238) | (replace hc238 := bnot_f hc238; subst hc238) | (replace hc238 := bnot_f hc238) | skip
            refine ha_startS hS [2, 0] 19 (by kernel_rfl) ?_; clear hS; intro w hS
            have hSS := hS.sub [2, 0] (by decide) rfl (by simp)
            refine ha_y 1 hF rfl rfl rfl (wn_none rfl) (.inr hSS) (yl_move hF rfl rfl) ?_
            clear hF; intro a hF
            refine ha_y 2 hF rfl rfl rfl (wn_none rfl) (.inr hSS) (yl_move hF rfl rfl) ?_
            clear hF; intro a hF
            refine ha_y 3 hF rfl rfl rfl (wn_none rfl) (.inr hSS) (yl_indexAddr hF rfl rfl rfl (fun _ => run_idx' sl22 sz3 (hS.rdRo 0 rfl) hlt_hx235)) ?_
            clear hF; intro a hF
            refine ha_y 7 hF rfl rfl rfl (wn_none rfl) (.inr hSS) (yl_move hF rfl rfl) ?_
            clear hF; intro a hF
            refine ha_y 8 hF rfl rfl rfl (wn_none rfl) (.inr hSS) (yl_move hF rfl rfl) ?_
            clear hF; intro a hF
            refine ha_y 9 hF rfl rfl rfl (wn_none rfl) (.inr hSS) (yl_indexAddr hF rfl rfl rfl (fun _ => run_idx' sl22 sz3 (hS.rdRo 0 rfl) hlt_hx235)) ?_
            clear hF; intro a hF
            refine ha_l 0 hF rfl rfl rfl (wn_none rfl) hSS (yl_loadK (rs := [_, _, _]) (fun _ h => h) hF rfl rfl 0 rfl ag24 sz24 rfl rfl) ?_
            clear hF; intro a hF
            refine ha_l 4 hF rfl rfl rfl (wn_none rfl) hSS (yl_loadAt hF rfl rfl ag3 (fun _ h => rd_cell0 (enc := encI) (Sat.rdRo h 1 rfl) encI_len hx235 rfl rfl)) ?_
            clear hF; intro a hF
            refine ha_y 5 hF rfl rfl rfl (wn_none rfl) (.inr hSS) (yl_bin hF rfl rfl rfl rfl (fun _ => run_shr (c := 2) (d := 4) (by decide) (by decide))) ?_
            clear hF; intro a hF
            refine ha_l 10 hF rfl rfl rfl (wn_none rfl) hSS (yl_loadAt hF rfl rfl ag3 (fun _ h => rd_cell0 (enc := encI) (Sat.rdRo h 1 rfl) encI_len hx235 rfl rfl)) ?_
            clear hF; intro a hF
            refine ha_y 11 hF rfl rfl rfl (wn_none rfl) (.inr hSS) (yl_bin hF rfl rfl rfl rfl (fun _ => run_shr (c := 5) (d := 32) (by decide) (by decide))) ?_
            clear hF; intro a hF
            have hr244 := rnd_bounds (((x235) / 4)) (5 : Int) (by omega)
            refine ha_one 6 (by kernel_rfl) rfl (wn_none rfl) (wp_call (vs := [_, _]) hF rfl rfl rfl rfl cf8 (round_any (((x235) / 4)) (5 : Int) _ (by omega)) ?_)
            clear hF; rintro _ w ⟨rfl, hS1⟩ a hF
            replace hS := hS.callB hS1 rfl; clear hS1
            replace hSS := hS.sub [2, 0] (by decide) rfl (by simp)
            refine ⟨.inr hSS, ?_⟩
            have hr245 := rnd_bounds (((x235) / 32)) (4 : Int) (by omega)
            refine ha_one 12 (by kernel_rfl) rfl (wn_none rfl) (wp_call (vs := [_, _]) hF rfl rfl rfl rfl cf8 (round_any (((x235) / 32)) (4 : Int) _ (by omega)) ?_)
            clear hF; rintro _ w ⟨rfl, hS1⟩ a hF
            replace hS := hS.callB hS1 rfl; clear hS1
            replace hSS := hS.sub [2, 0] (by decide) rfl (by simp)
            refine ⟨.inr hSS, ?_⟩
            refine ha_y 13 hF rfl rfl rfl (wn_none rfl) (.inr hSS) (yl_bin hF rfl rfl rfl rfl (fun _ => run_eql)) ?_
            clear hF; intro a hF
            refine ha_one 14 (by kernel_rfl) rfl (wn_none rfl) (wp_call (vs := [_, _, _]) hF rfl rfl rfl rfl cf15 (get2 _ M (r203) (c204) ((rnd (((x235) / 4)) (5 : Int))) (decide (((rnd (((x235) / 32)) (4 : Int))) = (0 : Int))) _ (hS.rdRow 3 rfl) (by first | omega | (simp; done) | (simp; omega))) ?_)
            clear hF; rintro _ w ⟨v246, L247, k248, b249, rfl, hp250, hS1⟩ a hF
            replace hS := hS.callB hS1 rfl; clear hS1
            obtain ⟨Av246, cv246, rfl⟩ := hS.form 0 rfl
            have hlhp250 := get_len hp250
            replace hSS := hS.sub [3, 1] (by decide) rfl (by simp)
            refine ⟨.inr hSS, ?_⟩
            refine ha_y 15 hF rfl rfl rfl (wn_none rfl) (.inr hSS) (yl_move hF rfl rfl) ?_
            clear hF; intro a hF
            refine ha_y 16 hF rfl rfl rfl (wn_none rfl) (.inr hSS) (yl_extract hF rfl rfl rfl) ?_
            clear hF; intro a hF
            refine ha_y 17 hF rfl rfl rfl (wn_none rfl) (.inr hSS) (yl_extract hF rfl rfl rfl) ?_
            clear hF; intro a hF
            refine ha_y 18 hF rfl rfl rfl (wn_none rfl) (.inr hSS) (yl_extract hF rfl rfl rfl) ?_
            clear hF; intro a hF
            refine ha_one 19 (by kernel_rfl) rfl (wn_none rfl) (wp_store (cs' := #[_, _, _]) hF hS rfl rfl rfl rfl 3 rfl sz24 (by simp [Value.cells, Value.oneCell']) (by simp [Value.cells]) rfl ?_)
            clear hF hS; intro a w hF hS
            refine ⟨.inl (by kernel_rfl), ?_⟩
            refine ha_done (by kernel_rfl) ?_ _
            refine inb_n ?_
            refine then_n ?_
            refine c_region ?_
            refine seq_yl hF (wn_none rfl) rfl rfl (yl_move hF rfl rfl) ?_
            clear hF; intro a hF
            refine seq_yl hF (wn_none rfl) rfl rfl (yl_bin hF rfl rfl rfl rfl (fun _ => run_inc (by omega))) ?_
            clear hF; intro a hF
            refine seq_yl hF (wn_none rfl) rfl rfl (yl_assign hF rfl rfl) ?_
            clear hF; intro a hF
            refine wpList_nil ?_
            refine then_n ?_
            exact ⟨_, (by omega), i + 1, L247, Av246, cv246, rfl, ⟨by omega, (by first | exact put_valid hp243 hval | exact get_valid hp250 hval), fun h9 => by have h8 : L.length = 0 := congrArg List.length h9; omega⟩, hF.to [1, 4, 5, 7] rfl, (hS.sub [1, 2, 3, 0] (by decide) (by first | rfl | simp) (by simp))⟩
        · first | (replace hc234 := of_decide_eq_false hc234) | (replace hc234 := of_decide_eq_true (bnot_f hc234)) | (subst hc234) | (replace hc234 := bnot_f hc234; subst hc234) | (replace hc234 := bnot_f hc234) | skip
          refine wp_exit ?_
          refine then_x ?_
          refine then_x ?_
          refine inb_x ?_
          refine then_n ?_
          refine c_seq ?_
          refine c_region ?_
          refine seq_yl hF (wn_none rfl) rfl rfl (yl_loadK (rs := [_, _, _]) (fun _ h => h ▸ hS) hF rfl rfl 2 rfl ag24 sz24 rfl rfl) ?_
          clear hF; intro a hF
          refine seq_wp (wn_none rfl) (wp_store (cs' := #[_, _, _]) hF hS rfl rfl rfl rfl 1 rfl sz24 (by simp [Value.cells, Value.oneCell']) (by simp [Value.cells]) rfl ?_)
          clear hF hS; intro a w hF hS
          refine wpList_nil ?_
          refine then_n ?_
          refine wp_ret ?_
          refine ret_c hF rfl (resC hS rfl 1 rfl ag24 sz24) ?_
          exact ⟨_, rfl, _, _, _, _, rfl, hval, hnl, (hS.sub [3] (by decide) (by first | rfl | simp) (by simp))⟩
      · first | (replace hc233 := of_decide_eq_false hc233) | (replace hc233 := of_decide_eq_true (bnot_f hc233)) | (subst hc233) | (replace hc233 := bnot_f hc233; subst hc233) | (replace hc233 := bnot_f hc233) | skip
        refine seq_skip hF (wn_f hF rfl rfl rfl rfl) rfl rfl ?_
        clear hF; intro a hF
        refine seq_skip hF (wn_f hF rfl rfl rfl rfl) rfl rfl ?_
        clear hF; intro a hF
        refine seq_yl hF (wn_none rfl) rfl rfl (yl_pick (u := _) (v := undef) hF rfl rfl (fun h => by cases h) (fun _ => rfl)) ?_
        clear hF; intro a hF
        refine wpList_nil ?_
        refine then_n ?_
        refine c_cond_f hF rfl ?_
        refine wp_exit ?_
        refine then_x ?_
        refine then_x ?_
        refine inb_x ?_
        refine then_n ?_
        refine c_seq ?_
        refine c_region ?_
        refine seq_yl hF (wn_none rfl) rfl rfl (yl_loadK (rs := [_, _, _]) (fun _ h => h ▸ hS) hF rfl rfl 2 rfl ag24 sz24 rfl rfl) ?_
        clear hF; intro a hF
        refine seq_wp (wn_none rfl) (wp_store (cs' := #[_, _, _]) hF hS rfl rfl rfl rfl 1 rfl sz24 (by simp [Value.cells, Value.oneCell']) (by simp [Value.cells]) rfl ?_)
        clear hF hS; intro a w hF hS
        refine wpList_nil ?_
        refine then_n ?_
        refine wp_ret ?_
        refine ret_c hF rfl (resC hS rfl 1 rfl ag24 sz24) ?_
        exact ⟨_, rfl, _, _, _, _, rfl, hval, hnl, (hS.sub [3] (by decide) (by first | rfl | simp) (by simp))⟩

end Go.Proofs.Ytaakkkknnihfmaa

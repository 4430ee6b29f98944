/- walks, printed by wip/gen -/
import Derived.Test.YtiifpgkdgnoafaaW8
import Derived.Test.YtiifpgkdgnoafaaW11
import Derived.Test.YtiifpgkdgnoafaaP5
namespace Go.Proofs.Ytiifpgkdgnoafaa
open Go.RowKit
set_option linter.unusedVariables false
set_option linter.unusedSimpArgs false

set_option maxHeartbeats 8000000 in
theorem accounts_any (v : Value) (L : List Int) (w0 : World) (hv : Rd w0 1 v (L).length (cells encI (L))) (hL : L.length ≤ maxLen) :
    Fn Try.prog 5 #[v] w0 (fun v w' => v = .bool true ∧ Sat w0 w' []) := by
  simp only [maxLen] at hL
  obtain ⟨Av, cv, rfl⟩ := Rd.form hv
  refine c_enter (N := 130) (l := [_]) Try.func5 rfl rfl (fun a w hF hS => ?_)
  replace hS := hS.addRo hv
  refine c_seq ?_
  refine c_region ?_
  refine seq_yl hF (wn_none rfl) rfl rfl (yl_assign hF rfl rfl) ?_
  clear hF; intro a hF
  refine wpList_nil ?_
  refine then_n ?_
  refine c_seq ?_
  refine c_region ?_
  refine seq_yl hF (wn_none rfl) rfl rfl (yl_move hF rfl rfl) ?_
  clear hF; intro a hF
  refine seq_yl hF (wn_none rfl) rfl rfl (yl_build (parts := [(0, .tmp 13)]) (vs := [(0, _)]) (cs := [_, _]) hF bd25 rfl rfl rfl rfl) ?_
  clear hF; intro a hF
  refine seq_wp (wn_none rfl) (wp_box (cs := #[_, _]) hF hS rfl rfl rfl rfl rfl ?_)
  clear hF hS; intro a w g207 hF hS
  refine seq_yl hF (wn_none rfl) rfl rfl (yl_assign hF rfl rfl) ?_
  clear hF; intro a hF
  refine wpList_nil ?_
  refine then_n ?_
  refine c_seq ?_
  refine c_region ?_
  refine seq_yl hF (wn_none rfl) rfl rfl (yl_move hF rfl rfl) ?_
  clear hF; intro a hF
  refine seq_wp (wn_none rfl) (wp_call (vs := [_, _]) hF rfl rfl rfl rfl cf9 (next_any _ _ _ _ _ _ _ (0 : Nat) (20 : Int) (by omega) hS (by omega) (by omega)) ?_)
  clear hF; rintro _ w ⟨r208, it209, rfl, hb210, hiit209, hS1⟩ a hF; replace hS := hS1; clear hS1
  refine seq_yl hF (wn_none rfl) rfl rfl (yl_bin hF rfl rfl rfl rfl (fun _ => run_add (by refine ⟨?_, ?_⟩ <;> omega))) ?_
  clear hF; intro a hF
  refine seq_yl hF (wn_none rfl) rfl rfl (yl_build (parts := [(0, .tmp 18)]) (vs := [(0, _)]) (cs := [_, _, _]) hF bd36 rfl rfl rfl rfl) ?_
  clear hF; intro a hF
  refine seq_yl hF (wn_none rfl) rfl rfl (yl_move hF rfl rfl) ?_
  clear hF; intro a hF
  refine seq_wp (wn_none rfl) (wp_call (vs := [_, _]) hF rfl rfl rfl rfl cf9 (next_any _ _ _ _ _ _ _ (it209 : Nat) (20 : Int) (by omega) hS (by omega) (by omega)) ?_)
  clear hF; rintro _ w ⟨r211, it212, rfl, hb213, hiit212, hS1⟩ a hF; replace hS := hS1; clear hS1
  refine seq_yl hF (wn_none rfl) rfl rfl (yl_bin hF rfl rfl rfl rfl (fun _ => run_add (by refine ⟨?_, ?_⟩ <;> omega))) ?_
  clear hF; intro a hF
  refine seq_yl hF (wn_none rfl) rfl rfl (yl_build (parts := [(0, .tmp 22)]) (vs := [(0, _)]) (cs := [_, _, _]) hF bd36 rfl rfl rfl rfl) ?_
  clear hF; intro a hF
  refine seq_yl hF (wn_none rfl) rfl rfl (yl_move hF rfl rfl) ?_
  clear hF; intro a hF
  refine seq_wp (wn_none rfl) (wp_call (vs := [_, _]) hF rfl rfl rfl rfl cf9 (next_any _ _ _ _ _ _ _ (it212 : Nat) (20 : Int) (by omega) hS (by omega) (by omega)) ?_)
  clear hF; rintro _ w ⟨r214, it215, rfl, hb216, hiit215, hS1⟩ a hF; replace hS := hS1; clear hS1
  refine seq_yl hF (wn_none rfl) rfl rfl (yl_bin hF rfl rfl rfl rfl (fun _ => run_add (by refine ⟨?_, ?_⟩ <;> omega))) ?_
  clear hF; intro a hF
  refine seq_yl hF (wn_none rfl) rfl rfl (yl_build (parts := [(0, .tmp 26)]) (vs := [(0, _)]) (cs := [_, _, _]) hF bd36 rfl rfl rfl rfl) ?_
  clear hF; intro a hF
  refine seq_wp (wn_none rfl) (wp_bslice (parts := [(0, .tmp 19), (1, .tmp 23), (2, .tmp 27)]) (vs := [(0, _), (1, _), (2, _)]) (enc := enc36) (e := 36) (size := 3) (cs := #[.int .i64 (((1 : Int) + (r208))), .int .i64 (0 : Int), .int .i64 (0 : Int), .int .i64 (((1 : Int) + (r211))), .int .i64 (0 : Int), .int .i64 (0 : Int), .int .i64 (((1 : Int) + (r214))), .int .i64 (0 : Int), .int .i64 (0 : Int)]) hF hS rfl rfl rfl rfl ([(E36.mk (((1 : Int) + (r208))) (0 : Int) (0 : Int)), (E36.mk (((1 : Int) + (r211))) (0 : Int) (0 : Int)), (E36.mk (((1 : Int) + (r214))) (0 : Int) (0 : Int))] : List E36) (fun w => by kernel_rfl) rfl rfl rfl (by decide) ?_)
  clear hF hS; intro a w v217 hF hS
  obtain ⟨Av217, cv217, rfl⟩ := hS.form 0 rfl
  refine seq_yl hF (wn_none rfl) rfl rfl (yl_assign hF rfl rfl) ?_
  clear hF; intro a hF
  refine wpList_nil ?_
  refine then_n ?_
  refine c_seq ?_
  refine c_region ?_
  refine seq_wp (wn_none rfl) (wp_alloc (cs := #[_, _, _]) hF hS rfl rfl rfl zr44 rfl ?_)
  clear hF hS; intro a w g218 hF hS
  refine wpList_nil ?_
  refine then_n ?_
  refine c_seq ?_
  refine c_seq ?_
  refine c_region ?_
  refine seq_yl hF (wn_none rfl) rfl rfl (yl_assign hF rfl rfl) ?_
  clear hF; intro a hF
  refine wpList_nil ?_
  refine then_n ?_
  refine wp_block ?_
  refine c_loop (fun m a w => ∃ (n it : Nat) (c0 c1 c2 : Int) (AvG : Option Addr) (cvG : Nat), m = 30 - n ∧ (n ≤ 30 ∧ it ≤ L.length ∧ (0 ≤ c0 ∧ c0 ≤ ((((1 : Int) + (r208))))) ∧ (0 ≤ c1 ∧ c1 ≤ ((((1 : Int) + (r211))))) ∧ (0 ≤ c2 ∧ c2 ≤ ((((1 : Int) + (r214)))))) ∧ Fr 130 a [(3, .pointer (some ⟨g207, 0, none⟩)), (4, .slice AvG ([E36.mk ((((1 : Int) + (r208)))) 0 c0, E36.mk ((((1 : Int) + (r211)))) 0 c1, E36.mk ((((1 : Int) + (r214)))) 0 c2]).length cvG), (5, .pointer (some ⟨g218, 0, none⟩)), (6, .int .i64 ((n : Nat) : Int))] ∧ Sat w0 w (.box g207 25 #[.slice Av (L).length cv, .int .i64 ((it : Nat) : Int)] :: .ro 1 (.slice Av (L).length cv) (L).length (cells encI (L)) :: .box g218 44 #[.int .i64 (c0), .int .i64 (c1), .int .i64 (c2)] :: .row 36 3 (.slice AvG ([E36.mk ((((1 : Int) + (r208)))) 0 c0, E36.mk ((((1 : Int) + (r211)))) 0 c1, E36.mk ((((1 : Int) + (r214)))) 0 c2]).length cvG) ([E36.mk ((((1 : Int) + (r208)))) 0 c0, E36.mk ((((1 : Int) + (r211)))) 0 c1, E36.mk ((((1 : Int) + (r214)))) 0 c2]).length (cells enc36 ([E36.mk ((((1 : Int) + (r208)))) 0 c0, E36.mk ((((1 : Int) + (r211)))) 0 c1, E36.mk ((((1 : Int) + (r214)))) 0 c2])) :: [])) (30 - 0) ?_ ?_
  · exact ⟨0, it215, 0, 0, 0, Av217, cv217, rfl, ⟨by omega, by omega, by omega, by omega, by omega⟩, hF.to [3, 4, 5, 6] rfl, (hS.sub [2, 3, 0, 1] (by decide) (by first | rfl | simp) (by simp))⟩
  · clear hF hS; try clear hSS
    clear a w; rintro m a w ⟨n, it, c0, c1, c2, AvG, cvG, rfl, hinv, hF, hS⟩
    obtain ⟨hn30, hit, hc0, hc1, hc2⟩ := hinv
    have hchk : chkG [E36.mk ((((1 : Int) + (r208)))) 0 c0, E36.mk ((((1 : Int) + (r211)))) 0 c1, E36.mk ((((1 : Int) + (r214)))) 0 c2] = true := chk3 (by omega) (by omega) (by omega)
    refine c_seq ?_
    refine c_seq ?_
    refine c_region ?_
    refine seq_yl hF (wn_none rfl) rfl rfl (yl_move hF rfl rfl) ?_
    clear hF; intro a hF
    refine seq_yl hF (wn_none rfl) rfl rfl (yl_bin hF rfl rfl rfl rfl (fun _ => run_lss)) ?_
    clear hF; intro a hF
    refine seq_yl hF (wn_none rfl) rfl rfl (yl_move hF rfl rfl) ?_
    clear hF; intro a hF
    refine fr_split hF (fun hc219 hF => ?_) (fun hc219 hF => ?_)
    · first | (replace hc219 := of_decide_eq_true hc219) | (replace hc219 := of_decide_eq_false (bnot_t hc219)) | (subst hc219) | (replace hc219 := bnot_t hc219; subst hc219) | (replace hc219 := bnot_t hc219) | skip
      refine seq_yl hF (wn_t hF rfl rfl rfl rfl) rfl rfl (yl_move hF rfl rfl) ?_
      clear hF; intro a hF
      refine seq_wp (wn_t hF rfl rfl rfl rfl) (wp_call (vs := [_]) hF rfl rfl rfl rfl cf26 (endT_any _ _ _ _ _ _ _ (it : Nat) hS (by omega) (by omega)) ?_)
      clear hF; rintro _ w ⟨be220, rfl, hS1⟩ a hF; replace hS := hS1; clear hS1
      refine seq_yl hF (wn_t hF rfl rfl rfl rfl) rfl rfl (yl_un hF rfl rfl (fun _ => run_not)) ?_
      clear hF; intro a hF
      refine seq_yl hF (wn_none rfl) rfl rfl (yl_pick (u := _) (v := undef) hF rfl rfl (fun _ => rfl) (fun h => by cases h)) ?_
      clear hF; intro a hF
      refine wpList_nil ?_
      refine then_n ?_
      refine c_cond hF rfl (fun hc221 => ?_) (fun hc221 => ?_)
      · first | (replace hc221 := of_decide_eq_true hc221) | (replace hc221 := of_decide_eq_false (bnot_t hc221)) | (subst hc221) | (replace hc221 := bnot_t hc221; subst hc221) | (replace hc221 := bnot_t hc221) | skip
        refine wp_skip ?_
        refine then_n ?_
        refine c_seq ?_
        refine wp_block ?_
        refine c_seq ?_
        refine c_region ?_
        refine seq_yl hF (wn_none rfl) rfl rfl (yl_move hF rfl rfl) ?_
        clear hF; intro a hF
        refine seq_wp (wn_none rfl) (wp_call (vs := [_, _]) hF rfl rfl rfl rfl cf9 (next_any _ _ _ _ _ _ _ (it : Nat) (3 : Int) (by omega) hS (by omega) (by omega)) ?_)
        clear hF; rintro _ w ⟨r222, it223, rfl, hb224, hiit223, hS1⟩ a hF; replace hS := hS1; clear hS1
        rcases (by omega : r222 = (0 : Int) ∨ r222 = (1 : Int) ∨ r222 = (2 : Int)) with hr | hr | hr
        · skip
          replace hF := fr_seti (b' := 0) hF (by assumption)
          refine seq_yl hF (wn_none rfl) rfl rfl (yl_move hF rfl rfl) ?_
          clear hF; intro a hF
          refine seq_wp (wn_none rfl) (wp_call (vs := [_, _]) hF rfl rfl rfl rfl cf9 (next_any _ _ _ _ _ _ _ (it223 : Nat) (8 : Int) (by omega) hS (by omega) (by omega)) ?_)
          clear hF; rintro _ w ⟨r225, it226, rfl, hb227, hiit226, hS1⟩ a hF; replace hS := hS1; clear hS1
          refine seq_yl hF (wn_none rfl) rfl rfl (yl_assign hF rfl rfl) ?_
          clear hF; intro a hF
          refine seq_yl hF (wn_none rfl) rfl rfl (yl_assign hF rfl rfl) ?_
          clear hF; intro a hF
          refine wpList_nil ?_
          refine then_n ?_
          refine c_seq ?_
          refine c_seq ?_
          refine c_region ?_
          refine seq_yl hF (wn_none rfl) rfl rfl (yl_move hF rfl rfl) ?_
          clear hF; intro a hF
          refine seq_wp (wn_none rfl) (wp_call (vs := [_, _]) hF rfl rfl rfl rfl cf9 (next_any _ _ _ _ _ _ _ (it226 : Nat) (2 : Int) (by omega) hS (by omega) (by omega)) ?_)
          clear hF; rintro _ w ⟨r228, it229, rfl, hb230, hiit229, hS1⟩ a hF; replace hS := hS1; clear hS1
          refine seq_yl hF (wn_none rfl) rfl rfl (yl_bin hF rfl rfl rfl rfl (fun _ => run_eql)) ?_
          clear hF; intro a hF
          refine wpList_nil ?_
          refine then_n ?_
          refine c_cond hF rfl (fun hc231 => ?_) (fun hc231 => ?_)
          · first | (replace hc231 := of_decide_eq_true hc231) | (replace hc231 := of_decide_eq_false (bnot_t hc231)) | (subst hc231) | (replace hc231 := bnot_t hc231; subst hc231) | (replace hc231 := bnot_t hc231) | skip
            refine c_seq ?_
            refine c_region ?_
            refine seq_yl hF (wn_none rfl) rfl rfl (yl_move hF rfl rfl) ?_
            clear hF; intro a hF
            refine seq_yl hF (wn_none rfl) rfl rfl (yl_move hF rfl rfl) ?_
            clear hF; intro a hF
            refine seq_yl hF (wn_none rfl) rfl rfl (yl_move hF rfl rfl) ?_
            clear hF; intro a hF
            refine seq_wp (wn_none rfl) (wp_call (vs := [_, _, _]) hF rfl rfl rfl rfl cf11 (charge_any _ [E36.mk ((((1 : Int) + (r208)))) 0 c0, E36.mk ((((1 : Int) + (r211)))) 0 c1, E36.mk ((((1 : Int) + (r214)))) 0 c2] (0 : Int) (r225) _ (hS.rdRow 3 rfl) (by first | omega | (simp; done) | (simp; omega) | (rw [chF_len]; first | omega | (simp; done) | (simp; omega)) | (rw [unF_len]; first | omega | (simp; done) | (simp; omega)))) ?_)
            clear hF; rintro _ w ⟨v232, rfl, hS1⟩ a hF
            replace hS := hS.callB hS1 rfl; clear hS1
            obtain ⟨Av232, cv232, rfl⟩ := hS.form 0 rfl
            refine seq_yl hF (wn_none rfl) rfl rfl (yl_move hF rfl rfl) ?_
            clear hF; intro a hF
            refine seq_yl hF (wn_none rfl) rfl rfl (yl_extract hF rfl rfl rfl) ?_
            clear hF; intro a hF
            refine seq_yl hF (wn_none rfl) rfl rfl (yl_extract hF rfl rfl rfl) ?_
            clear hF; intro a hF
            refine seq_yl hF (wn_none rfl) rfl rfl (yl_assign hF rfl rfl) ?_
            clear hF; intro a hF
            refine seq_yl hF (wn_none rfl) rfl rfl (yl_assign hF rfl rfl) ?_
            clear hF; intro a hF
            refine wpList_nil ?_
            refine then_n ?_
            refine c_seq ?_
            refine c_seq ?_
            refine ha_startS hS [3, 4] 14 (by kernel_rfl) ?_; clear hS; intro w hS
            have hSS := hS.sub [3, 4] (by decide) rfl (by simp)
            refine ha_yl 0 hF rfl rfl rfl (by kernel_rfl) (by kernel_rfl) (by kernel_rfl) (by decide) (fun _ _ _ h => h) (wn_none rfl) (.inr hSS) (yl_move hF rfl rfl) ?_
            clear hF; intro a hF
            refine ha_yl 1 hF rfl rfl rfl (by kernel_rfl) (by kernel_rfl) (by kernel_rfl) (by decide) (fun _ _ _ h => h) (wn_none rfl) (.inr hSS) (yl_bin hF rfl rfl rfl rfl (fun _ => run_eql)) ?_
            clear hF; intro a hF
            rcases acc_ch (G := [E36.mk ((((1 : Int) + (r208)))) 0 c0, E36.mk ((((1 : Int) + (r211)))) 0 c1, E36.mk ((((1 : Int) + (r214)))) 0 c2]) 0 (0 : Int) rfl (k := (r225)) (x := E36.mk ((((1 : Int) + (r208)))) 0 c0) hchk rfl (by omega) with ⟨hdd, hle, hch⟩ | ⟨hdd, hle, hch⟩ <;> dsimp only at hle
            · skip
              replace hF := fr_set (b' := true) hF (by assumption)
              refine ha_yl 2 hF rfl rfl rfl (by kernel_rfl) (by kernel_rfl) (by kernel_rfl) (by decide) (fun _ _ _ h => h) (wn_none rfl) (.inr hSS) (yl_move hF rfl rfl) ?_
              clear hF; intro a hF
              refine ha_yl 3 hF rfl rfl rfl (by kernel_rfl) (by kernel_rfl) (by kernel_rfl) (by decide) (fun _ _ _ h => h) (wn_none rfl) (.inr hSS) (yl_indexAddr hF rfl rfl rfl (fun w => by kernel_rfl : ∀ w, (Instr.indexAt 44 (.pointer (some ⟨g218, 0, none⟩)) (.int .i64 0)).run Try.prog w = .ok (.pointer (some ⟨g218, 0, none⟩)) w)) ?_
              clear hF; intro a hF
              refine ha_yl 5 hF rfl rfl rfl (by kernel_rfl) (by kernel_rfl) (by kernel_rfl) (by decide) (fun _ _ _ h => h) (wn_none rfl) (.inr hSS) (yl_move hF rfl rfl) ?_
              clear hF; intro a hF
              refine ha_yl 7 hF rfl rfl rfl (by kernel_rfl) (by kernel_rfl) (by kernel_rfl) (by decide) (fun _ _ _ h => h) (wn_none rfl) (.inr hSS) (yl_move hF rfl rfl) ?_
              clear hF; intro a hF
              refine ha_yl 8 hF rfl rfl rfl (by kernel_rfl) (by kernel_rfl) (by kernel_rfl) (by decide) (fun _ _ _ h => h) (wn_none rfl) (.inr hSS) (yl_move hF rfl rfl) ?_
              clear hF; intro a hF
              have hlt_hx233 : 0 < ([E36.mk ((((1 : Int) + (r208)))) 0 c0, E36.mk ((((1 : Int) + (r211)))) 0 c1, E36.mk ((((1 : Int) + (r214)))) 0 c2]).length := by first | omega | (simp; done) | (simp; omega)
              obtain ⟨ad234, rfl⟩ := rd_some (hS.rdRow 4 rfl) hlt_hx233
              obtain ⟨x233, hx233⟩ := get_some hlt_hx233
              refine ha_yl 9 hF rfl rfl rfl (by kernel_rfl) (by kernel_rfl) (by kernel_rfl) (by decide) (fun _ _ _ h => h) (wn_none rfl) (.inr hSS) (yl_indexAddr hF rfl rfl rfl (fun _ => run_idx' (k := 0) sl26 sz36 (hS.rdRow 4 rfl) hlt_hx233)) ?_
              clear hF; intro a hF
              refine ha_yl 10 hF rfl rfl rfl (by kernel_rfl) (by kernel_rfl) (by kernel_rfl) (by decide) (fun _ _ _ h => h) (wn_none rfl) (.inr hSS) (yl_fieldAddr hF rfl rfl (fun w => run_fa0 fo36_0)) ?_
              clear hF; intro a hF
              refine ha_ld 4 hF rfl rfl rfl (by kernel_rfl) (by kernel_rfl) (by kernel_rfl) (by decide) (by kernel_rfl) (by kernel_rfl) (fun _ _ _ h => h) (wn_none rfl) hSS (yl_load (fun _ h => h) hF rfl rfl 0 rfl ag3 rfl) ?_
              clear hF; intro a hF
              refine ha_yl 6 hF rfl rfl rfl (by kernel_rfl) (by kernel_rfl) (by kernel_rfl) (by decide) (fun _ _ _ h => h) (wn_none rfl) (.inr hSS) (yl_bin hF rfl rfl rfl rfl (fun _ => run_add (by refine ⟨?_, ?_⟩ <;> omega))) ?_
              clear hF; intro a hF
              refine ha_ld 11 hF rfl rfl rfl (by kernel_rfl) (by kernel_rfl) (by kernel_rfl) (by decide) (by kernel_rfl) (by kernel_rfl) (fun _ _ _ h => h) (wn_none rfl) hSS (yl_loadAt hF rfl rfl ag3 (fun _ h => rd_cell0 (enc := enc36) (Sat.rdRow h 1 rfl) enc36_len hx233 rfl rfl)) ?_
              clear hF; intro a hF
              refine ha_yl 12 hF rfl rfl rfl (by kernel_rfl) (by kernel_rfl) (by kernel_rfl) (by decide) (fun _ _ _ h => h) (wn_none rfl) (.inr hSS) (yl_bin hF rfl rfl rfl rfl (fun _ => run_leq)) ?_
              clear hF; intro a hF
              refine ha_yl 13 hF rfl rfl rfl (by kernel_rfl) (by kernel_rfl) (by kernel_rfl) (by decide) (fun _ _ _ h => h) (wn_none rfl) (.inr hSS) (yl_bin hF rfl rfl rfl rfl (fun _ => run_neb Try.underlying4)) ?_
              clear hF; intro a hF
              replace hF := fr_set (b' := false) hF (by have hq : (decide ((((c0) + (r225))) ≤ (x233.f0))) = true := decide_eq_true (by cases (Option.some.inj hx233 : E36.mk ((((1 : Int) + (r208)))) 0 c0 = x233); (try dsimp only); omega); rw [hq]; rfl)
              refine ha_done (by kernel_rfl) ?_ _
              refine then_n ?_
              refine c_cond_f hF rfl ?_
              refine wp_skip ?_
              refine then_n ?_
              refine c_seq ?_
              refine c_region ?_
              refine seq_yl hF (wn_none rfl) rfl rfl (yl_move hF rfl rfl) ?_
              clear hF; intro a hF
              refine seq_yl hF (wn_none rfl) rfl rfl (yl_bin hF rfl rfl rfl rfl (fun _ => run_eql)) ?_
              clear hF; intro a hF
              replace hF := fr_set (b' := true) hF (hdd)
              refine wpList_nil ?_
              refine then_n ?_
              refine c_cond_t hF rfl ?_
              refine c_seq ?_
              refine c_region ?_
              refine seq_yl hF (wn_none rfl) rfl rfl (yl_move hF rfl rfl) ?_
              clear hF; intro a hF
              refine seq_yl hF (wn_none rfl) rfl rfl (yl_assign hF rfl rfl) ?_
              clear hF; intro a hF
              refine wpList_nil ?_
              refine then_n ?_
              refine c_region ?_
              refine seq_yl hF (wn_none rfl) rfl rfl (yl_move hF rfl rfl) ?_
              clear hF; intro a hF
              refine seq_yl hF (wn_none rfl) rfl rfl (yl_indexAddr hF rfl rfl rfl (fun w => by kernel_rfl : ∀ w, (Instr.indexAt 44 (.pointer (some ⟨g218, 0, none⟩)) (.int .i64 0)).run Try.prog w = .ok (.pointer (some ⟨g218, 0, none⟩)) w)) ?_
              clear hF; intro a hF
              refine seq_yl hF (wn_none rfl) rfl rfl (yl_load (fun _ h => h ▸ hS) hF rfl rfl 3 rfl ag3 rfl) ?_
              clear hF; intro a hF
              refine seq_yl hF (wn_none rfl) rfl rfl (yl_move hF rfl rfl) ?_
              clear hF; intro a hF
              refine seq_yl hF (wn_none rfl) rfl rfl (yl_bin hF rfl rfl rfl rfl (fun _ => run_add (by refine ⟨?_, ?_⟩ <;> omega))) ?_
              clear hF; intro a hF
              refine seq_yl hF (wn_none rfl) rfl rfl (yl_indexAddr hF rfl rfl rfl (fun w => by kernel_rfl : ∀ w, (Instr.indexAt 44 (.pointer (some ⟨g218, 0, none⟩)) (.int .i64 0)).run Try.prog w = .ok (.pointer (some ⟨g218, 0, none⟩)) w)) ?_
              clear hF; intro a hF
              refine seq_wp (wn_none rfl) (wp_store (cs' := #[_, _, _]) hF hS rfl rfl rfl rfl 3 rfl sz3 (by simp [Value.cells, Value.oneCell']) (by simp [Value.cells]) rfl ?_)
              clear hF hS; intro a w hF hS
              refine wpList_nil ?_
              refine then_n ?_
              refine c_seq ?_
              refine ha_startS hS [0, 3] 30 (by kernel_rfl) ?_; clear hS; intro w hS
              have hSS := hS.sub [0, 3] (by decide) rfl (by simp)
              refine ha_yl 0 hF rfl rfl rfl (by kernel_rfl) (by kernel_rfl) (by kernel_rfl) (by decide) (fun _ _ _ h => h) (wn_none rfl) (.inr hSS) (yl_move hF rfl rfl) ?_
              clear hF; intro a hF
              refine ha_yl 1 hF rfl rfl rfl (by kernel_rfl) (by kernel_rfl) (by kernel_rfl) (by decide) (fun _ _ _ h => h) (wn_none rfl) (.inr hSS) (yl_len hF rfl rfl (fun _ => run_lenRd sl26 (hS.rdRow 0 rfl))) ?_
              clear hF; intro a hF
              refine ha_yl 2 hF rfl rfl rfl (by kernel_rfl) (by kernel_rfl) (by kernel_rfl) (by decide) (fun _ _ _ h => h) (wn_none rfl) (.inr hSS) (yl_bin hF rfl rfl rfl rfl (fun _ => run_neq)) ?_
              clear hF; intro a hF
              replace hF := fr_set (b' := false) hF (by rw [decide_eq_false_iff_not]; rw [hch]; exact fun h => h rfl)
              refine ha_yl 3 hF rfl rfl rfl (by kernel_rfl) (by kernel_rfl) (by kernel_rfl) (by decide) (fun _ _ _ h => h) (wn_none rfl) (.inr hSS) (yl_move hF rfl rfl) ?_
              clear hF; intro a hF
              refine ha_yl 4 hF rfl rfl rfl (by kernel_rfl) (by kernel_rfl) (by kernel_rfl) (by decide) (fun _ _ _ h => h) (wn_t hF rfl rfl rfl rfl) (.inr hSS) (yl_move hF rfl rfl) ?_
              clear hF; intro a hF
              have hlt_hx235 : 0 < ((chF [E36.mk ((((1 : Int) + (r208)))) 0 c0, E36.mk ((((1 : Int) + (r211)))) 0 c1, E36.mk ((((1 : Int) + (r214)))) 0 c2] (0 : Int) (r225)).1).length := by first | omega | (rw [chF_len]; simp; done) | (rw [unF_len]; simp; done) | (rw [chF_len, unF_len]; omega) | (rw [chF_len]; omega) | (rw [unF_len]; omega) | decide +kernel | (simp; omega)
              obtain ⟨ad236, rfl⟩ := rd_some (hS.rdRow 0 rfl) hlt_hx235
              obtain ⟨x235, hx235⟩ := get_some hlt_hx235
              refine ha_yl 5 hF rfl rfl rfl (by kernel_rfl) (by kernel_rfl) (by kernel_rfl) (by decide) (fun _ _ _ h => h) (wn_t hF rfl rfl rfl rfl) (.inr hSS) (yl_indexAddr hF rfl rfl rfl (fun _ => run_idx' (k := 0) sl26 sz36 (hS.rdRow 0 rfl) hlt_hx235)) ?_
              clear hF; intro a hF
              refine ha_yl 6 hF rfl rfl rfl (by kernel_rfl) (by kernel_rfl) (by kernel_rfl) (by decide) (fun _ _ _ h => h) (wn_t hF rfl rfl rfl rfl) (.inr hSS) (yl_fieldAddr hF rfl rfl (fun w => run_fa fo36_2)) ?_
              clear hF; intro a hF
              refine ha_yl 8 hF rfl rfl rfl (by kernel_rfl) (by kernel_rfl) (by kernel_rfl) (by decide) (fun _ _ _ h => h) (wn_t hF rfl rfl rfl rfl) (.inr hSS) (yl_indexAddr hF rfl rfl rfl (fun w => by kernel_rfl : ∀ w, (Instr.indexAt 44 (.pointer (some ⟨g218, 0, none⟩)) (.int .i64 0)).run Try.prog w = .ok (.pointer (some ⟨g218, 0, none⟩)) w)) ?_
              clear hF; intro a hF
              refine ha_ld 7 hF rfl rfl rfl (by kernel_rfl) (by kernel_rfl) (by kernel_rfl) (by decide) (by kernel_rfl) (by kernel_rfl) (fun _ _ _ h => h) (wn_t hF rfl rfl rfl rfl) hSS (yl_loadAt hF rfl rfl ag3 (fun _ h => rd_cell (j := 2) (enc := enc36) (Sat.rdRow h 0 rfl) enc36_len hx235 rfl rfl)) ?_
              clear hF; intro a hF
              refine ha_ld 9 hF rfl rfl rfl (by kernel_rfl) (by kernel_rfl) (by kernel_rfl) (by decide) (by kernel_rfl) (by kernel_rfl) (fun _ _ _ h => h) (wn_t hF rfl rfl rfl rfl) hSS (yl_load (fun _ h => h) hF rfl rfl 1 rfl ag3 rfl) ?_
              clear hF; intro a hF
              refine ha_yl 10 hF rfl rfl rfl (by kernel_rfl) (by kernel_rfl) (by kernel_rfl) (by decide) (fun _ _ _ h => h) (wn_t hF rfl rfl rfl rfl) (.inr hSS) (yl_bin hF rfl rfl rfl rfl (fun _ => run_neq)) ?_
              clear hF; intro a hF
              replace hF := fr_set (b' := false) hF (by have h9 := hx235; rw [hch] at h9; cases (Option.some.inj h9 : E36.mk ((((1 : Int) + (r208)))) 0 ((((c0) + (r225)))) = x235); rw [decide_eq_false_iff_not]; exact fun h => h rfl)
              refine ha_yl 11 hF rfl rfl rfl (by kernel_rfl) (by kernel_rfl) (by kernel_rfl) (by decide) (fun _ _ _ h => h) (wn_none rfl) (.inr hSS) (yl_pick (u := _) (v := undef) hF rfl rfl (fun h => by cases h) (fun _ => rfl)) ?_
              clear hF; intro a hF
              refine ha_yl 12 hF rfl rfl rfl (by kernel_rfl) (by kernel_rfl) (by kernel_rfl) (by decide) (fun _ _ _ h => h) (wn_none rfl) (.inr hSS) (yl_move hF rfl rfl) ?_
              clear hF; intro a hF
              refine ha_yl 13 hF rfl rfl rfl (by kernel_rfl) (by kernel_rfl) (by kernel_rfl) (by decide) (fun _ _ _ h => h) (wn_t hF rfl rfl rfl rfl) (.inr hSS) (yl_move hF rfl rfl) ?_
              clear hF; intro a hF
              have hlt_hx237 : 1 < ((chF [E36.mk ((((1 : Int) + (r208)))) 0 c0, E36.mk ((((1 : Int) + (r211)))) 0 c1, E36.mk ((((1 : Int) + (r214)))) 0 c2] (0 : Int) (r225)).1).length := by first | omega | (rw [chF_len]; simp; done) | (rw [unF_len]; simp; done) | (rw [chF_len, unF_len]; omega) | (rw [chF_len]; omega) | (rw [unF_len]; omega) | decide +kernel | (simp; omega)
              obtain ⟨x237, hx237⟩ := get_some hlt_hx237
              refine ha_yl 14 hF rfl rfl rfl (by kernel_rfl) (by kernel_rfl) (by kernel_rfl) (by decide) (fun _ _ _ h => h) (wn_t hF rfl rfl rfl rfl) (.inr hSS) (yl_indexAddr hF rfl rfl rfl (fun _ => run_idx' (k := 1) sl26 sz36 (hS.rdRow 0 rfl) hlt_hx237)) ?_
              clear hF; intro a hF
              refine ha_yl 15 hF rfl rfl rfl (by kernel_rfl) (by kernel_rfl) (by kernel_rfl) (by decide) (fun _ _ _ h => h) (wn_t hF rfl rfl rfl rfl) (.inr hSS) (yl_fieldAddr hF rfl rfl (fun w => run_fa fo36_2)) ?_
              clear hF; intro a hF
              refine ha_yl 17 hF rfl rfl rfl (by kernel_rfl) (by kernel_rfl) (by kernel_rfl) (by decide) (fun _ _ _ h => h) (wn_t hF rfl rfl rfl rfl) (.inr hSS) (yl_indexAddr hF rfl rfl rfl (fun w => by kernel_rfl : ∀ w, (Instr.indexAt 44 (.pointer (some ⟨g218, 0, none⟩)) (.int .i64 1)).run Try.prog w = .ok (.pointer (some ⟨g218, 1, none⟩)) w)) ?_
              clear hF; intro a hF
              refine ha_ld 16 hF rfl rfl rfl (by kernel_rfl) (by kernel_rfl) (by kernel_rfl) (by decide) (by kernel_rfl) (by kernel_rfl) (fun _ _ _ h => h) (wn_t hF rfl rfl rfl rfl) hSS (yl_loadAt hF rfl rfl ag3 (fun _ h => rd_cell (j := 2) (enc := enc36) (Sat.rdRow h 0 rfl) enc36_len hx237 rfl rfl)) ?_
              clear hF; intro a hF
              refine ha_ld 18 hF rfl rfl rfl (by kernel_rfl) (by kernel_rfl) (by kernel_rfl) (by decide) (by kernel_rfl) (by kernel_rfl) (fun _ _ _ h => h) (wn_t hF rfl rfl rfl rfl) hSS (yl_load (fun _ h => h) hF rfl rfl 1 rfl ag3 rfl) ?_
              clear hF; intro a hF
              refine ha_yl 19 hF rfl rfl rfl (by kernel_rfl) (by kernel_rfl) (by kernel_rfl) (by decide) (fun _ _ _ h => h) (wn_t hF rfl rfl rfl rfl) (.inr hSS) (yl_bin hF rfl rfl rfl rfl (fun _ => run_neq)) ?_
              clear hF; intro a hF
              replace hF := fr_set (b' := false) hF (by have h9 := hx237; rw [hch] at h9; cases (Option.some.inj h9 : E36.mk ((((1 : Int) + (r211)))) 0 ((c1)) = x237); rw [decide_eq_false_iff_not]; exact fun h => h rfl)
              refine ha_yl 20 hF rfl rfl rfl (by kernel_rfl) (by kernel_rfl) (by kernel_rfl) (by decide) (fun _ _ _ h => h) (wn_none rfl) (.inr hSS) (yl_pick (u := _) (v := undef) hF rfl rfl (fun h => by cases h) (fun _ => rfl)) ?_
              clear hF; intro a hF
              refine ha_yl 21 hF rfl rfl rfl (by kernel_rfl) (by kernel_rfl) (by kernel_rfl) (by decide) (fun _ _ _ h => h) (wn_none rfl) (.inr hSS) (yl_move hF rfl rfl) ?_
              clear hF; intro a hF
              refine ha_yl 22 hF rfl rfl rfl (by kernel_rfl) (by kernel_rfl) (by kernel_rfl) (by decide) (fun _ _ _ h => h) (wn_t hF rfl rfl rfl rfl) (.inr hSS) (yl_move hF rfl rfl) ?_
              clear hF; intro a hF
              have hlt_hx238 : 2 < ((chF [E36.mk ((((1 : Int) + (r208)))) 0 c0, E36.mk ((((1 : Int) + (r211)))) 0 c1, E36.mk ((((1 : Int) + (r214)))) 0 c2] (0 : Int) (r225)).1).length := by first | omega | (rw [chF_len]; simp; done) | (rw [unF_len]; simp; done) | (rw [chF_len, unF_len]; omega) | (rw [chF_len]; omega) | (rw [unF_len]; omega) | decide +kernel | (simp; omega)
              obtain ⟨x238, hx238⟩ := get_some hlt_hx238
              refine ha_yl 23 hF rfl rfl rfl (by kernel_rfl) (by kernel_rfl) (by kernel_rfl) (by decide) (fun _ _ _ h => h) (wn_t hF rfl rfl rfl rfl) (.inr hSS) (yl_indexAddr hF rfl rfl rfl (fun _ => run_idx' (k := 2) sl26 sz36 (hS.rdRow 0 rfl) hlt_hx238)) ?_
              clear hF; intro a hF
              refine ha_yl 24 hF rfl rfl rfl (by kernel_rfl) (by kernel_rfl) (by kernel_rfl) (by decide) (fun _ _ _ h => h) (wn_t hF rfl rfl rfl rfl) (.inr hSS) (yl_fieldAddr hF rfl rfl (fun w => run_fa fo36_2)) ?_
              clear hF; intro a hF
              refine ha_yl 26 hF rfl rfl rfl (by kernel_rfl) (by kernel_rfl) (by kernel_rfl) (by decide) (fun _ _ _ h => h) (wn_t hF rfl rfl rfl rfl) (.inr hSS) (yl_indexAddr hF rfl rfl rfl (fun w => by kernel_rfl : ∀ w, (Instr.indexAt 44 (.pointer (some ⟨g218, 0, none⟩)) (.int .i64 2)).run Try.prog w = .ok (.pointer (some ⟨g218, 2, none⟩)) w)) ?_
              clear hF; intro a hF
              refine ha_ld 25 hF rfl rfl rfl (by kernel_rfl) (by kernel_rfl) (by kernel_rfl) (by decide) (by kernel_rfl) (by kernel_rfl) (fun _ _ _ h => h) (wn_t hF rfl rfl rfl rfl) hSS (yl_loadAt hF rfl rfl ag3 (fun _ h => rd_cell (j := 2) (enc := enc36) (Sat.rdRow h 0 rfl) enc36_len hx238 rfl rfl)) ?_
              clear hF; intro a hF
              refine ha_ld 27 hF rfl rfl rfl (by kernel_rfl) (by kernel_rfl) (by kernel_rfl) (by decide) (by kernel_rfl) (by kernel_rfl) (fun _ _ _ h => h) (wn_t hF rfl rfl rfl rfl) hSS (yl_load (fun _ h => h) hF rfl rfl 1 rfl ag3 rfl) ?_
              clear hF; intro a hF
              refine ha_yl 28 hF rfl rfl rfl (by kernel_rfl) (by kernel_rfl) (by kernel_rfl) (by decide) (fun _ _ _ h => h) (wn_t hF rfl rfl rfl rfl) (.inr hSS) (yl_bin hF rfl rfl rfl rfl (fun _ => run_neq)) ?_
              clear hF; intro a hF
              replace hF := fr_set (b' := false) hF (by have h9 := hx238; rw [hch] at h9; cases (Option.some.inj h9 : E36.mk ((((1 : Int) + (r214)))) 0 ((c2)) = x238); rw [decide_eq_false_iff_not]; exact fun h => h rfl)
              refine ha_yl 29 hF rfl rfl rfl (by kernel_rfl) (by kernel_rfl) (by kernel_rfl) (by decide) (fun _ _ _ h => h) (wn_none rfl) (.inr hSS) (yl_pick (u := _) (v := undef) hF rfl rfl (fun h => by cases h) (fun _ => rfl)) ?_
              clear hF; intro a hF
              refine ha_done (by kernel_rfl) ?_ _
              refine then_n ?_
              refine c_cond_f hF rfl ?_
              refine wp_skip ?_
              refine inb_n ?_
              refine then_n ?_
              refine c_region ?_
              refine seq_yl hF (wn_none rfl) rfl rfl (yl_move hF rfl rfl) ?_
              clear hF; intro a hF
              refine seq_yl hF (wn_none rfl) rfl rfl (yl_bin hF rfl rfl rfl rfl (fun _ => run_inc (by omega))) ?_
              clear hF; intro a hF
              refine seq_yl hF (wn_none rfl) rfl rfl (yl_assign hF rfl rfl) ?_
              clear hF; intro a hF
              refine wpList_nil ?_
              refine then_n ?_
              rw [hch] at hS hF
              exact ⟨_, (by omega), n + 1, it229, (((c0) + (r225))), (c1), (c2), (some ad236), cv232, rfl, ⟨by omega, by omega, by omega, by omega, by omega⟩, hF.to [3, 4, 5, 6] rfl, (hS.sub [1, 2, 3, 0] (by decide) (by first | rfl | simp) (by simp))⟩
            · skip
              replace hF := fr_set (b' := false) hF (by assumption)
              refine ha_yl 2 hF rfl rfl rfl (by kernel_rfl) (by kernel_rfl) (by kernel_rfl) (by decide) (fun _ _ _ h => h) (wn_none rfl) (.inr hSS) (yl_move hF rfl rfl) ?_
              clear hF; intro a hF
              refine ha_yl 3 hF rfl rfl rfl (by kernel_rfl) (by kernel_rfl) (by kernel_rfl) (by decide) (fun _ _ _ h => h) (wn_none rfl) (.inr hSS) (yl_indexAddr hF rfl rfl rfl (fun w => by kernel_rfl : ∀ w, (Instr.indexAt 44 (.pointer (some ⟨g218, 0, none⟩)) (.int .i64 0)).run Try.prog w = .ok (.pointer (some ⟨g218, 0, none⟩)) w)) ?_
              clear hF; intro a hF
              refine ha_yl 5 hF rfl rfl rfl (by kernel_rfl) (by kernel_rfl) (by kernel_rfl) (by decide) (fun _ _ _ h => h) (wn_none rfl) (.inr hSS) (yl_move hF rfl rfl) ?_
              clear hF; intro a hF
              refine ha_yl 7 hF rfl rfl rfl (by kernel_rfl) (by kernel_rfl) (by kernel_rfl) (by decide) (fun _ _ _ h => h) (wn_none rfl) (.inr hSS) (yl_move hF rfl rfl) ?_
              clear hF; intro a hF
              refine ha_yl 8 hF rfl rfl rfl (by kernel_rfl) (by kernel_rfl) (by kernel_rfl) (by decide) (fun _ _ _ h => h) (wn_none rfl) (.inr hSS) (yl_move hF rfl rfl) ?_
              clear hF; intro a hF
              have hlt_hx239 : 0 < ([E36.mk ((((1 : Int) + (r208)))) 0 c0, E36.mk ((((1 : Int) + (r211)))) 0 c1, E36.mk ((((1 : Int) + (r214)))) 0 c2]).length := by first | omega | (simp; done) | (simp; omega)
              obtain ⟨ad240, rfl⟩ := rd_some (hS.rdRow 4 rfl) hlt_hx239
              obtain ⟨x239, hx239⟩ := get_some hlt_hx239
              refine ha_yl 9 hF rfl rfl rfl (by kernel_rfl) (by kernel_rfl) (by kernel_rfl) (by decide) (fun _ _ _ h => h) (wn_none rfl) (.inr hSS) (yl_indexAddr hF rfl rfl rfl (fun _ => run_idx' (k := 0) sl26 sz36 (hS.rdRow 4 rfl) hlt_hx239)) ?_
              clear hF; intro a hF
              refine ha_yl 10 hF rfl rfl rfl (by kernel_rfl) (by kernel_rfl) (by kernel_rfl) (by decide) (fun _ _ _ h => h) (wn_none rfl) (.inr hSS) (yl_fieldAddr hF rfl rfl (fun w => run_fa0 fo36_0)) ?_
              clear hF; intro a hF
              refine ha_ld 4 hF rfl rfl rfl (by kernel_rfl) (by kernel_rfl) (by kernel_rfl) (by decide) (by kernel_rfl) (by kernel_rfl) (fun _ _ _ h => h) (wn_none rfl) hSS (yl_load (fun _ h => h) hF rfl rfl 0 rfl ag3 rfl) ?_
              clear hF; intro a hF
              refine ha_yl 6 hF rfl rfl rfl (by kernel_rfl) (by kernel_rfl) (by kernel_rfl) (by decide) (fun _ _ _ h => h) (wn_none rfl) (.inr hSS) (yl_bin hF rfl rfl rfl rfl (fun _ => run_add (by refine ⟨?_, ?_⟩ <;> omega))) ?_
              clear hF; intro a hF
              refine ha_ld 11 hF rfl rfl rfl (by kernel_rfl) (by kernel_rfl) (by kernel_rfl) (by decide) (by kernel_rfl) (by kernel_rfl) (fun _ _ _ h => h) (wn_none rfl) hSS (yl_loadAt hF rfl rfl ag3 (fun _ h => rd_cell0 (enc := enc36) (Sat.rdRow h 1 rfl) enc36_len hx239 rfl rfl)) ?_
              clear hF; intro a hF
              refine ha_yl 12 hF rfl rfl rfl (by kernel_rfl) (by kernel_rfl) (by kernel_rfl) (by decide) (fun _ _ _ h => h) (wn_none rfl) (.inr hSS) (yl_bin hF rfl rfl rfl rfl (fun _ => run_leq)) ?_
              clear hF; intro a hF
              refine ha_yl 13 hF rfl rfl rfl (by kernel_rfl) (by kernel_rfl) (by kernel_rfl) (by decide) (fun _ _ _ h => h) (wn_none rfl) (.inr hSS) (yl_bin hF rfl rfl rfl rfl (fun _ => run_neb Try.underlying4)) ?_
              clear hF; intro a hF
              replace hF := fr_set (b' := false) hF (by have hq : (decide ((((c0) + (r225))) ≤ (x239.f0))) = false := decide_eq_false (by cases (Option.some.inj hx239 : E36.mk ((((1 : Int) + (r208)))) 0 c0 = x239); (try dsimp only); omega); rw [hq]; rfl)
              refine ha_done (by kernel_rfl) ?_ _
              refine then_n ?_
              refine c_cond_f hF rfl ?_
              refine wp_skip ?_
              refine then_n ?_
              refine c_seq ?_
              refine c_region ?_
              refine seq_yl hF (wn_none rfl) rfl rfl (yl_move hF rfl rfl) ?_
              clear hF; intro a hF
              refine seq_yl hF (wn_none rfl) rfl rfl (yl_bin hF rfl rfl rfl rfl (fun _ => run_eql)) ?_
              clear hF; intro a hF
              replace hF := fr_set (b' := false) hF (hdd)
              refine wpList_nil ?_
              refine then_n ?_
              refine c_cond_f hF rfl ?_
              refine wp_skip ?_
              refine then_n ?_
              refine c_seq ?_
              refine ha_startS hS [4, 3] 30 (by kernel_rfl) ?_; clear hS; intro w hS
              have hSS := hS.sub [4, 3] (by decide) rfl (by simp)
              refine ha_yl 0 hF rfl rfl rfl (by kernel_rfl) (by kernel_rfl) (by kernel_rfl) (by decide) (fun _ _ _ h => h) (wn_none rfl) (.inr hSS) (yl_move hF rfl rfl) ?_
              clear hF; intro a hF
              refine ha_yl 1 hF rfl rfl rfl (by kernel_rfl) (by kernel_rfl) (by kernel_rfl) (by decide) (fun _ _ _ h => h) (wn_none rfl) (.inr hSS) (yl_len hF rfl rfl (fun _ => run_lenRd sl26 (hS.rdRow 4 rfl))) ?_
              clear hF; intro a hF
              refine ha_yl 2 hF rfl rfl rfl (by kernel_rfl) (by kernel_rfl) (by kernel_rfl) (by decide) (fun _ _ _ h => h) (wn_none rfl) (.inr hSS) (yl_bin hF rfl rfl rfl rfl (fun _ => run_neq)) ?_
              clear hF; intro a hF
              replace hF := fr_set (b' := false) hF (by rw [decide_eq_false_iff_not]; exact fun h => h rfl)
              refine ha_yl 3 hF rfl rfl rfl (by kernel_rfl) (by kernel_rfl) (by kernel_rfl) (by decide) (fun _ _ _ h => h) (wn_none rfl) (.inr hSS) (yl_move hF rfl rfl) ?_
              clear hF; intro a hF
              refine ha_yl 4 hF rfl rfl rfl (by kernel_rfl) (by kernel_rfl) (by kernel_rfl) (by decide) (fun _ _ _ h => h) (wn_t hF rfl rfl rfl rfl) (.inr hSS) (yl_move hF rfl rfl) ?_
              clear hF; intro a hF
              refine ha_yl 5 hF rfl rfl rfl (by kernel_rfl) (by kernel_rfl) (by kernel_rfl) (by decide) (fun _ _ _ h => h) (wn_t hF rfl rfl rfl rfl) (.inr hSS) (yl_indexAddr hF rfl rfl rfl (fun _ => run_idx' (k := 0) sl26 sz36 (hS.rdRow 4 rfl) hlt_hx239)) ?_
              clear hF; intro a hF
              refine ha_yl 6 hF rfl rfl rfl (by kernel_rfl) (by kernel_rfl) (by kernel_rfl) (by decide) (fun _ _ _ h => h) (wn_t hF rfl rfl rfl rfl) (.inr hSS) (yl_fieldAddr hF rfl rfl (fun w => run_fa fo36_2)) ?_
              clear hF; intro a hF
              refine ha_yl 8 hF rfl rfl rfl (by kernel_rfl) (by kernel_rfl) (by kernel_rfl) (by decide) (fun _ _ _ h => h) (wn_t hF rfl rfl rfl rfl) (.inr hSS) (yl_indexAddr hF rfl rfl rfl (fun w => by kernel_rfl : ∀ w, (Instr.indexAt 44 (.pointer (some ⟨g218, 0, none⟩)) (.int .i64 0)).run Try.prog w = .ok (.pointer (some ⟨g218, 0, none⟩)) w)) ?_
              clear hF; intro a hF
              refine ha_ld 7 hF rfl rfl rfl (by kernel_rfl) (by kernel_rfl) (by kernel_rfl) (by decide) (by kernel_rfl) (by kernel_rfl) (fun _ _ _ h => h) (wn_t hF rfl rfl rfl rfl) hSS (yl_loadAt hF rfl rfl ag3 (fun _ h => rd_cell (j := 2) (enc := enc36) (Sat.rdRow h 0 rfl) enc36_len hx239 rfl rfl)) ?_
              clear hF; intro a hF
              refine ha_ld 9 hF rfl rfl rfl (by kernel_rfl) (by kernel_rfl) (by kernel_rfl) (by decide) (by kernel_rfl) (by kernel_rfl) (fun _ _ _ h => h) (wn_t hF rfl rfl rfl rfl) hSS (yl_load (fun _ h => h) hF rfl rfl 1 rfl ag3 rfl) ?_
              clear hF; intro a hF
              refine ha_yl 10 hF rfl rfl rfl (by kernel_rfl) (by kernel_rfl) (by kernel_rfl) (by decide) (fun _ _ _ h => h) (wn_t hF rfl rfl rfl rfl) (.inr hSS) (yl_bin hF rfl rfl rfl rfl (fun _ => run_neq)) ?_
              clear hF; intro a hF
              replace hF := fr_set (b' := false) hF (by have h9 := hx239; cases (Option.some.inj h9 : E36.mk ((((1 : Int) + (r208)))) 0 ((c0)) = x239); rw [decide_eq_false_iff_not]; exact fun h => h rfl)
              refine ha_yl 11 hF rfl rfl rfl (by kernel_rfl) (by kernel_rfl) (by kernel_rfl) (by decide) (fun _ _ _ h => h) (wn_none rfl) (.inr hSS) (yl_pick (u := _) (v := undef) hF rfl rfl (fun h => by cases h) (fun _ => rfl)) ?_
              clear hF; intro a hF
              refine ha_yl 12 hF rfl rfl rfl (by kernel_rfl) (by kernel_rfl) (by kernel_rfl) (by decide) (fun _ _ _ h => h) (wn_none rfl) (.inr hSS) (yl_move hF rfl rfl) ?_
              clear hF; intro a hF
              refine ha_yl 13 hF rfl rfl rfl (by kernel_rfl) (by kernel_rfl) (by kernel_rfl) (by decide) (fun _ _ _ h => h) (wn_t hF rfl rfl rfl rfl) (.inr hSS) (yl_move hF rfl rfl) ?_
              clear hF; intro a hF
              have hlt_hx241 : 1 < ([E36.mk ((((1 : Int) + (r208)))) 0 c0, E36.mk ((((1 : Int) + (r211)))) 0 c1, E36.mk ((((1 : Int) + (r214)))) 0 c2]).length := by first | omega | (simp; done) | (simp; omega)
              obtain ⟨x241, hx241⟩ := get_some hlt_hx241
              refine ha_yl 14 hF rfl rfl rfl (by kernel_rfl) (by kernel_rfl) (by kernel_rfl) (by decide) (fun _ _ _ h => h) (wn_t hF rfl rfl rfl rfl) (.inr hSS) (yl_indexAddr hF rfl rfl rfl (fun _ => run_idx' (k := 1) sl26 sz36 (hS.rdRow 4 rfl) hlt_hx241)) ?_
              clear hF; intro a hF
              refine ha_yl 15 hF rfl rfl rfl (by kernel_rfl) (by kernel_rfl) (by kernel_rfl) (by decide) (fun _ _ _ h => h) (wn_t hF rfl rfl rfl rfl) (.inr hSS) (yl_fieldAddr hF rfl rfl (fun w => run_fa fo36_2)) ?_
              clear hF; intro a hF
              refine ha_yl 17 hF rfl rfl rfl (by kernel_rfl) (by kernel_rfl) (by kernel_rfl) (by decide) (fun _ _ _ h => h) (wn_t hF rfl rfl rfl rfl) (.inr hSS) (yl_indexAddr hF rfl rfl rfl (fun w => by kernel_rfl : ∀ w, (Instr.indexAt 44 (.pointer (some ⟨g218, 0, none⟩)) (.int .i64 1)).run Try.prog w = .ok (.pointer (some ⟨g218, 1, none⟩)) w)) ?_
              clear hF; intro a hF
              refine ha_ld 16 hF rfl rfl rfl (by kernel_rfl) (by kernel_rfl) (by kernel_rfl) (by decide) (by kernel_rfl) (by kernel_rfl) (fun _ _ _ h => h) (wn_t hF rfl rfl rfl rfl) hSS (yl_loadAt hF rfl rfl ag3 (fun _ h => rd_cell (j := 2) (enc := enc36) (Sat.rdRow h 0 rfl) enc36_len hx241 rfl rfl)) ?_
              clear hF; intro a hF
              refine ha_ld 18 hF rfl rfl rfl (by kernel_rfl) (by kernel_rfl) (by kernel_rfl) (by decide) (by kernel_rfl) (by kernel_rfl) (fun _ _ _ h => h) (wn_t hF rfl rfl rfl rfl) hSS (yl_load (fun _ h => h) hF rfl rfl 1 rfl ag3 rfl) ?_
              clear hF; intro a hF
              refine ha_yl 19 hF rfl rfl rfl (by kernel_rfl) (by kernel_rfl) (by kernel_rfl) (by decide) (fun _ _ _ h => h) (wn_t hF rfl rfl rfl rfl) (.inr hSS) (yl_bin hF rfl rfl rfl rfl (fun _ => run_neq)) ?_
              clear hF; intro a hF
              replace hF := fr_set (b' := false) hF (by have h9 := hx241; cases (Option.some.inj h9 : E36.mk ((((1 : Int) + (r211)))) 0 ((c1)) = x241); rw [decide_eq_false_iff_not]; exact fun h => h rfl)
              refine ha_yl 20 hF rfl rfl rfl (by kernel_rfl) (by kernel_rfl) (by kernel_rfl) (by decide) (fun _ _ _ h => h) (wn_none rfl) (.inr hSS) (yl_pick (u := _) (v := undef) hF rfl rfl (fun h => by cases h) (fun _ => rfl)) ?_
              clear hF; intro a hF
              refine ha_yl 21 hF rfl rfl rfl (by kernel_rfl) (by kernel_rfl) (by kernel_rfl) (by decide) (fun _ _ _ h => h) (wn_none rfl) (.inr hSS) (yl_move hF rfl rfl) ?_
              clear hF; intro a hF
              refine ha_yl 22 hF rfl rfl rfl (by kernel_rfl) (by kernel_rfl) (by kernel_rfl) (by decide) (fun _ _ _ h => h) (wn_t hF rfl rfl rfl rfl) (.inr hSS) (yl_move hF rfl rfl) ?_
              clear hF; intro a hF
              have hlt_hx242 : 2 < ([E36.mk ((((1 : Int) + (r208)))) 0 c0, E36.mk ((((1 : Int) + (r211)))) 0 c1, E36.mk ((((1 : Int) + (r214)))) 0 c2]).length := by first | omega | (simp; done) | (simp; omega)
              obtain ⟨x242, hx242⟩ := get_some hlt_hx242
              refine ha_yl 23 hF rfl rfl rfl (by kernel_rfl) (by kernel_rfl) (by kernel_rfl) (by decide) (fun _ _ _ h => h) (wn_t hF rfl rfl rfl rfl) (.inr hSS) (yl_indexAddr hF rfl rfl rfl (fun _ => run_idx' (k := 2) sl26 sz36 (hS.rdRow 4 rfl) hlt_hx242)) ?_
              clear hF; intro a hF
              refine ha_yl 24 hF rfl rfl rfl (by kernel_rfl) (by kernel_rfl) (by kernel_rfl) (by decide) (fun _ _ _ h => h) (wn_t hF rfl rfl rfl rfl) (.inr hSS) (yl_fieldAddr hF rfl rfl (fun w => run_fa fo36_2)) ?_
              clear hF; intro a hF
              refine ha_yl 26 hF rfl rfl rfl (by kernel_rfl) (by kernel_rfl) (by kernel_rfl) (by decide) (fun _ _ _ h => h) (wn_t hF rfl rfl rfl rfl) (.inr hSS) (yl_indexAddr hF rfl rfl rfl (fun w => by kernel_rfl : ∀ w, (Instr.indexAt 44 (.pointer (some ⟨g218, 0, none⟩)) (.int .i64 2)).run Try.prog w = .ok (.pointer (some ⟨g218, 2, none⟩)) w)) ?_
              clear hF; intro a hF
              refine ha_ld 25 hF rfl rfl rfl (by kernel_rfl) (by kernel_rfl) (by kernel_rfl) (by decide) (by kernel_rfl) (by kernel_rfl) (fun _ _ _ h => h) (wn_t hF rfl rfl rfl rfl) hSS (yl_loadAt hF rfl rfl ag3 (fun _ h => rd_cell (j := 2) (enc := enc36) (Sat.rdRow h 0 rfl) enc36_len hx242 rfl rfl)) ?_
              clear hF; intro a hF
              refine ha_ld 27 hF rfl rfl rfl (by kernel_rfl) (by kernel_rfl) (by kernel_rfl) (by decide) (by kernel_rfl) (by kernel_rfl) (fun _ _ _ h => h) (wn_t hF rfl rfl rfl rfl) hSS (yl_load (fun _ h => h) hF rfl rfl 1 rfl ag3 rfl) ?_
              clear hF; intro a hF
              refine ha_yl 28 hF rfl rfl rfl (by kernel_rfl) (by kernel_rfl) (by kernel_rfl) (by decide) (fun _ _ _ h => h) (wn_t hF rfl rfl rfl rfl) (.inr hSS) (yl_bin hF rfl rfl rfl rfl (fun _ => run_neq)) ?_
              clear hF; intro a hF
              replace hF := fr_set (b' := false) hF (by have h9 := hx242; cases (Option.some.inj h9 : E36.mk ((((1 : Int) + (r214)))) 0 ((c2)) = x242); rw [decide_eq_false_iff_not]; exact fun h => h rfl)
              refine ha_yl 29 hF rfl rfl rfl (by kernel_rfl) (by kernel_rfl) (by kernel_rfl) (by decide) (fun _ _ _ h => h) (wn_none rfl) (.inr hSS) (yl_pick (u := _) (v := undef) hF rfl rfl (fun h => by cases h) (fun _ => rfl)) ?_
              clear hF; intro a hF
              refine ha_done (by kernel_rfl) ?_ _
              refine then_n ?_
              refine c_cond_f hF rfl ?_
              refine wp_skip ?_
              refine inb_n ?_
              refine then_n ?_
              refine c_region ?_
              refine seq_yl hF (wn_none rfl) rfl rfl (yl_move hF rfl rfl) ?_
              clear hF; intro a hF
              refine seq_yl hF (wn_none rfl) rfl rfl (yl_bin hF rfl rfl rfl rfl (fun _ => run_inc (by omega))) ?_
              clear hF; intro a hF
              refine seq_yl hF (wn_none rfl) rfl rfl (yl_assign hF rfl rfl) ?_
              clear hF; intro a hF
              refine wpList_nil ?_
              refine then_n ?_
              exact ⟨_, (by omega), n + 1, it229, (c0), (c1), (c2), (some ad240), cvG, rfl, ⟨by omega, by omega, by omega, by omega, by omega⟩, hF.to [3, 4, 5, 6] rfl, (hS.sub [1, 2, 3, 4] (by decide) (by first | rfl | simp) (by simp))⟩
          · first | (replace hc231 := of_decide_eq_false hc231) | (replace hc231 := of_decide_eq_true (bnot_f hc231)) | (subst hc231) | (replace hc231 := bnot_f hc231; subst hc231) | (replace hc231 := bnot_f hc231) | skip
            refine c_seq ?_
            refine c_region ?_
            refine seq_yl hF (wn_none rfl) rfl rfl (yl_move hF rfl rfl) ?_
            clear hF; intro a hF
            refine seq_yl hF (wn_none rfl) rfl rfl (yl_move hF rfl rfl) ?_
            clear hF; intro a hF
            refine seq_yl hF (wn_none rfl) rfl rfl (yl_move hF rfl rfl) ?_
            clear hF; intro a hF
            refine seq_wp (wn_none rfl) (wp_call (vs := [_, _, _]) hF rfl rfl rfl rfl cf13 (uncharge_any _ [E36.mk ((((1 : Int) + (r208)))) 0 c0, E36.mk ((((1 : Int) + (r211)))) 0 c1, E36.mk ((((1 : Int) + (r214)))) 0 c2] (0 : Int) (r225) _ (hS.rdRow 3 rfl) (by first | omega | (simp; done) | (simp; omega) | (rw [chF_len]; first | omega | (simp; done) | (simp; omega)) | (rw [unF_len]; first | omega | (simp; done) | (simp; omega)))) ?_)
            clear hF; rintro _ w ⟨v243, rfl, hS1⟩ a hF
            replace hS := hS.callB hS1 rfl; clear hS1
            obtain ⟨Av243, cv243, rfl⟩ := hS.form 0 rfl
            refine seq_yl hF (wn_none rfl) rfl rfl (yl_move hF rfl rfl) ?_
            clear hF; intro a hF
            refine seq_yl hF (wn_none rfl) rfl rfl (yl_extract hF rfl rfl rfl) ?_
            clear hF; intro a hF
            refine seq_yl hF (wn_none rfl) rfl rfl (yl_extract hF rfl rfl rfl) ?_
            clear hF; intro a hF
            refine seq_yl hF (wn_none rfl) rfl rfl (yl_assign hF rfl rfl) ?_
            clear hF; intro a hF
            refine seq_yl hF (wn_none rfl) rfl rfl (yl_assign hF rfl rfl) ?_
            clear hF; intro a hF
            refine wpList_nil ?_
            refine then_n ?_
            refine c_seq ?_
            refine c_seq ?_
            refine c_region ?_
            refine seq_yl hF (wn_none rfl) rfl rfl (yl_move hF rfl rfl) ?_
            clear hF; intro a hF
            refine seq_yl hF (wn_none rfl) rfl rfl (yl_bin hF rfl rfl rfl rfl (fun _ => run_eql)) ?_
            clear hF; intro a hF
            rcases acc_un (G := [E36.mk ((((1 : Int) + (r208)))) 0 c0, E36.mk ((((1 : Int) + (r211)))) 0 c1, E36.mk ((((1 : Int) + (r214)))) 0 c2]) 0 (0 : Int) rfl (k := (r225)) (x := E36.mk ((((1 : Int) + (r208)))) 0 c0) hchk rfl (by omega) with ⟨hdd, hle, hch⟩ | ⟨hdd, hle, hch⟩ <;> dsimp only at hle
            · skip
              replace hF := fr_set (b' := true) hF (by assumption)
              refine seq_yl hF (wn_none rfl) rfl rfl (yl_move hF rfl rfl) ?_
              clear hF; intro a hF
              refine seq_yl hF (wn_none rfl) rfl rfl (yl_move hF rfl rfl) ?_
              clear hF; intro a hF
              refine seq_yl hF (wn_none rfl) rfl rfl (yl_indexAddr hF rfl rfl rfl (fun w => by kernel_rfl : ∀ w, (Instr.indexAt 44 (.pointer (some ⟨g218, 0, none⟩)) (.int .i64 0)).run Try.prog w = .ok (.pointer (some ⟨g218, 0, none⟩)) w)) ?_
              clear hF; intro a hF
              refine seq_yl hF (wn_none rfl) rfl rfl (yl_load (fun _ h => h ▸ hS) hF rfl rfl 3 rfl ag3 rfl) ?_
              clear hF; intro a hF
              refine seq_yl hF (wn_none rfl) rfl rfl (yl_bin hF rfl rfl rfl rfl (fun _ => run_leq)) ?_
              clear hF; intro a hF
              refine seq_yl hF (wn_none rfl) rfl rfl (yl_bin hF rfl rfl rfl rfl (fun _ => run_neb Try.underlying4)) ?_
              clear hF; intro a hF
              replace hF := fr_set (b' := false) hF (by have hq : (decide ((r225) ≤ (c0))) = true := decide_eq_true (by (try dsimp only); omega); rw [hq]; rfl)
              refine wpList_nil ?_
              refine then_n ?_
              refine c_cond_f hF rfl ?_
              refine wp_skip ?_
              refine then_n ?_
              refine c_seq ?_
              refine c_region ?_
              refine seq_yl hF (wn_none rfl) rfl rfl (yl_move hF rfl rfl) ?_
              clear hF; intro a hF
              refine seq_yl hF (wn_none rfl) rfl rfl (yl_bin hF rfl rfl rfl rfl (fun _ => run_eql)) ?_
              clear hF; intro a hF
              replace hF := fr_set (b' := true) hF (hdd)
              refine wpList_nil ?_
              refine then_n ?_
              refine c_cond_t hF rfl ?_
              refine c_seq ?_
              refine c_region ?_
              refine seq_yl hF (wn_none rfl) rfl rfl (yl_move hF rfl rfl) ?_
              clear hF; intro a hF
              refine seq_yl hF (wn_none rfl) rfl rfl (yl_assign hF rfl rfl) ?_
              clear hF; intro a hF
              refine wpList_nil ?_
              refine then_n ?_
              refine c_region ?_
              refine seq_yl hF (wn_none rfl) rfl rfl (yl_move hF rfl rfl) ?_
              clear hF; intro a hF
              refine seq_yl hF (wn_none rfl) rfl rfl (yl_indexAddr hF rfl rfl rfl (fun w => by kernel_rfl : ∀ w, (Instr.indexAt 44 (.pointer (some ⟨g218, 0, none⟩)) (.int .i64 0)).run Try.prog w = .ok (.pointer (some ⟨g218, 0, none⟩)) w)) ?_
              clear hF; intro a hF
              refine seq_yl hF (wn_none rfl) rfl rfl (yl_load (fun _ h => h ▸ hS) hF rfl rfl 3 rfl ag3 rfl) ?_
              clear hF; intro a hF
              refine seq_yl hF (wn_none rfl) rfl rfl (yl_move hF rfl rfl) ?_
              clear hF; intro a hF
              refine seq_yl hF (wn_none rfl) rfl rfl (yl_bin hF rfl rfl rfl rfl (fun _ => run_sub (by refine ⟨?_, ?_⟩ <;> omega))) ?_
              clear hF; intro a hF
              refine seq_yl hF (wn_none rfl) rfl rfl (yl_indexAddr hF rfl rfl rfl (fun w => by kernel_rfl : ∀ w, (Instr.indexAt 44 (.pointer (some ⟨g218, 0, none⟩)) (.int .i64 0)).run Try.prog w = .ok (.pointer (some ⟨g218, 0, none⟩)) w)) ?_
              clear hF; intro a hF
              refine seq_wp (wn_none rfl) (wp_store (cs' := #[_, _, _]) hF hS rfl rfl rfl rfl 3 rfl sz3 (by simp [Value.cells, Value.oneCell']) (by simp [Value.cells]) rfl ?_)
              clear hF hS; intro a w hF hS
              refine wpList_nil ?_
              refine then_n ?_
              refine c_seq ?_
              refine ha_startS hS [0, 3] 30 (by kernel_rfl) ?_; clear hS; intro w hS
              have hSS := hS.sub [0, 3] (by decide) rfl (by simp)
              refine ha_yl 0 hF rfl rfl rfl (by kernel_rfl) (by kernel_rfl) (by kernel_rfl) (by decide) (fun _ _ _ h => h) (wn_none rfl) (.inr hSS) (yl_move hF rfl rfl) ?_
              clear hF; intro a hF
              refine ha_yl 1 hF rfl rfl rfl (by kernel_rfl) (by kernel_rfl) (by kernel_rfl) (by decide) (fun _ _ _ h => h) (wn_none rfl) (.inr hSS) (yl_len hF rfl rfl (fun _ => run_lenRd sl26 (hS.rdRow 0 rfl))) ?_
              clear hF; intro a hF
              refine ha_yl 2 hF rfl rfl rfl (by kernel_rfl) (by kernel_rfl) (by kernel_rfl) (by decide) (fun _ _ _ h => h) (wn_none rfl) (.inr hSS) (yl_bin hF rfl rfl rfl rfl (fun _ => run_neq)) ?_
              clear hF; intro a hF
              replace hF := fr_set (b' := false) hF (by rw [decide_eq_false_iff_not]; rw [hch]; exact fun h => h rfl)
              refine ha_yl 3 hF rfl rfl rfl (by kernel_rfl) (by kernel_rfl) (by kernel_rfl) (by decide) (fun _ _ _ h => h) (wn_none rfl) (.inr hSS) (yl_move hF rfl rfl) ?_
              clear hF; intro a hF
              refine ha_yl 4 hF rfl rfl rfl (by kernel_rfl) (by kernel_rfl) (by kernel_rfl) (by decide) (fun _ _ _ h => h) (wn_t hF rfl rfl rfl rfl) (.inr hSS) (yl_move hF rfl rfl) ?_
              clear hF; intro a hF
              have hlt_hx244 : 0 < ((unF [E36.mk ((((1 : Int) + (r208)))) 0 c0, E36.mk ((((1 : Int) + (r211)))) 0 c1, E36.mk ((((1 : Int) + (r214)))) 0 c2] (0 : Int) (r225)).1).length := by first | omega | (rw [chF_len]; simp; done) | (rw [unF_len]; simp; done) | (rw [chF_len, unF_len]; omega) | (rw [chF_len]; omega) | (rw [unF_len]; omega) | decide +kernel | (simp; omega)
              obtain ⟨ad245, rfl⟩ := rd_some (hS.rdRow 0 rfl) hlt_hx244
              obtain ⟨x244, hx244⟩ := get_some hlt_hx244
              refine ha_yl 5 hF rfl rfl rfl (by kernel_rfl) (by kernel_rfl) (by kernel_rfl) (by decide) (fun _ _ _ h => h) (wn_t hF rfl rfl rfl rfl) (.inr hSS) (yl_indexAddr hF rfl rfl rfl (fun _ => run_idx' (k := 0) sl26 sz36 (hS.rdRow 0 rfl) hlt_hx244)) ?_
              clear hF; intro a hF
              refine ha_yl 6 hF rfl rfl rfl (by kernel_rfl) (by kernel_rfl) (by kernel_rfl) (by decide) (fun _ _ _ h => h) (wn_t hF rfl rfl rfl rfl) (.inr hSS) (yl_fieldAddr hF rfl rfl (fun w => run_fa fo36_2)) ?_
              clear hF; intro a hF
              refine ha_yl 8 hF rfl rfl rfl (by kernel_rfl) (by kernel_rfl) (by kernel_rfl) (by decide) (fun _ _ _ h => h) (wn_t hF rfl rfl rfl rfl) (.inr hSS) (yl_indexAddr hF rfl rfl rfl (fun w => by kernel_rfl : ∀ w, (Instr.indexAt 44 (.pointer (some ⟨g218, 0, none⟩)) (.int .i64 0)).run Try.prog w = .ok (.pointer (some ⟨g218, 0, none⟩)) w)) ?_
              clear hF; intro a hF
              refine ha_ld 7 hF rfl rfl rfl (by kernel_rfl) (by kernel_rfl) (by kernel_rfl) (by decide) (by kernel_rfl) (by kernel_rfl) (fun _ _ _ h => h) (wn_t hF rfl rfl rfl rfl) hSS (yl_loadAt hF rfl rfl ag3 (fun _ h => rd_cell (j := 2) (enc := enc36) (Sat.rdRow h 0 rfl) enc36_len hx244 rfl rfl)) ?_
              clear hF; intro a hF
              refine ha_ld 9 hF rfl rfl rfl (by kernel_rfl) (by kernel_rfl) (by kernel_rfl) (by decide) (by kernel_rfl) (by kernel_rfl) (fun _ _ _ h => h) (wn_t hF rfl rfl rfl rfl) hSS (yl_load (fun _ h => h) hF rfl rfl 1 rfl ag3 rfl) ?_
              clear hF; intro a hF
              refine ha_yl 10 hF rfl rfl rfl (by kernel_rfl) (by kernel_rfl) (by kernel_rfl) (by decide) (fun _ _ _ h => h) (wn_t hF rfl rfl rfl rfl) (.inr hSS) (yl_bin hF rfl rfl rfl rfl (fun _ => run_neq)) ?_
              clear hF; intro a hF
              replace hF := fr_set (b' := false) hF (by have h9 := hx244; rw [hch] at h9; cases (Option.some.inj h9 : E36.mk ((((1 : Int) + (r208)))) 0 ((((c0) - (r225)))) = x244); rw [decide_eq_false_iff_not]; exact fun h => h rfl)
              refine ha_yl 11 hF rfl rfl rfl (by kernel_rfl) (by kernel_rfl) (by kernel_rfl) (by decide) (fun _ _ _ h => h) (wn_none rfl) (.inr hSS) (yl_pick (u := _) (v := undef) hF rfl rfl (fun h => by cases h) (fun _ => rfl)) ?_
              clear hF; intro a hF
              refine ha_yl 12 hF rfl rfl rfl (by kernel_rfl) (by kernel_rfl) (by kernel_rfl) (by decide) (fun _ _ _ h => h) (wn_none rfl) (.inr hSS) (yl_move hF rfl rfl) ?_
              clear hF; intro a hF
              refine ha_yl 13 hF rfl rfl rfl (by kernel_rfl) (by kernel_rfl) (by kernel_rfl) (by decide) (fun _ _ _ h => h) (wn_t hF rfl rfl rfl rfl) (.inr hSS) (yl_move hF rfl rfl) ?_
              clear hF; intro a hF
              have hlt_hx246 : 1 < ((unF [E36.mk ((((1 : Int) + (r208)))) 0 c0, E36.mk ((((1 : Int) + (r211)))) 0 c1, E36.mk ((((1 : Int) + (r214)))) 0 c2] (0 : Int) (r225)).1).length := by first | omega | (rw [chF_len]; simp; done) | (rw [unF_len]; simp; done) | (rw [chF_len, unF_len]; omega) | (rw [chF_len]; omega) | (rw [unF_len]; omega) | decide +kernel | (simp; omega)
              obtain ⟨x246, hx246⟩ := get_some hlt_hx246
              refine ha_yl 14 hF rfl rfl rfl (by kernel_rfl) (by kernel_rfl) (by kernel_rfl) (by decide) (fun _ _ _ h => h) (wn_t hF rfl rfl rfl rfl) (.inr hSS) (yl_indexAddr hF rfl rfl rfl (fun _ => run_idx' (k := 1) sl26 sz36 (hS.rdRow 0 rfl) hlt_hx246)) ?_
              clear hF; intro a hF
              refine ha_yl 15 hF rfl rfl rfl (by kernel_rfl) (by kernel_rfl) (by kernel_rfl) (by decide) (fun _ _ _ h => h) (wn_t hF rfl rfl rfl rfl) (.inr hSS) (yl_fieldAddr hF rfl rfl (fun w => run_fa fo36_2)) ?_
              clear hF; intro a hF
              refine ha_yl 17 hF rfl rfl rfl (by kernel_rfl) (by kernel_rfl) (by kernel_rfl) (by decide) (fun _ _ _ h => h) (wn_t hF rfl rfl rfl rfl) (.inr hSS) (yl_indexAddr hF rfl rfl rfl (fun w => by kernel_rfl : ∀ w, (Instr.indexAt 44 (.pointer (some ⟨g218, 0, none⟩)) (.int .i64 1)).run Try.prog w = .ok (.pointer (some ⟨g218, 1, none⟩)) w)) ?_
              clear hF; intro a hF
              refine ha_ld 16 hF rfl rfl rfl (by kernel_rfl) (by kernel_rfl) (by kernel_rfl) (by decide) (by kernel_rfl) (by kernel_rfl) (fun _ _ _ h => h) (wn_t hF rfl rfl rfl rfl) hSS (yl_loadAt hF rfl rfl ag3 (fun _ h => rd_cell (j := 2) (enc := enc36) (Sat.rdRow h 0 rfl) enc36_len hx246 rfl rfl)) ?_
              clear hF; intro a hF
              refine ha_ld 18 hF rfl rfl rfl (by kernel_rfl) (by kernel_rfl) (by kernel_rfl) (by decide) (by kernel_rfl) (by kernel_rfl) (fun _ _ _ h => h) (wn_t hF rfl rfl rfl rfl) hSS (yl_load (fun _ h => h) hF rfl rfl 1 rfl ag3 rfl) ?_
              clear hF; intro a hF
              refine ha_yl 19 hF rfl rfl rfl (by kernel_rfl) (by kernel_rfl) (by kernel_rfl) (by decide) (fun _ _ _ h => h) (wn_t hF rfl rfl rfl rfl) (.inr hSS) (yl_bin hF rfl rfl rfl rfl (fun _ => run_neq)) ?_
              clear hF; intro a hF
              replace hF := fr_set (b' := false) hF (by have h9 := hx246; rw [hch] at h9; cases (Option.some.inj h9 : E36.mk ((((1 : Int) + (r211)))) 0 ((c1)) = x246); rw [decide_eq_false_iff_not]; exact fun h => h rfl)
              refine ha_yl 20 hF rfl rfl rfl (by kernel_rfl) (by kernel_rfl) (by kernel_rfl) (by decide) (fun _ _ _ h => h) (wn_none rfl) (.inr hSS) (yl_pick (u := _) (v := undef) hF rfl rfl (fun h => by cases h) (fun _ => rfl)) ?_
              clear hF; intro a hF
              refine ha_yl 21 hF rfl rfl rfl (by kernel_rfl) (by kernel_rfl) (by kernel_rfl) (by decide) (fun _ _ _ h => h) (wn_none rfl) (.inr hSS) (yl_move hF rfl rfl) ?_
              clear hF; intro a hF
              refine ha_yl 22 hF rfl rfl rfl (by kernel_rfl) (by kernel_rfl) (by kernel_rfl) (by decide) (fun _ _ _ h => h) (wn_t hF rfl rfl rfl rfl) (.inr hSS) (yl_move hF rfl rfl) ?_
              clear hF; intro a hF
              have hlt_hx247 : 2 < ((unF [E36.mk ((((1 : Int) + (r208)))) 0 c0, E36.mk ((((1 : Int) + (r211)))) 0 c1, E36.mk ((((1 : Int) + (r214)))) 0 c2] (0 : Int) (r225)).1).length := by first | omega | (rw [chF_len]; simp; done) | (rw [unF_len]; simp; done) | (rw [chF_len, unF_len]; omega) | (rw [chF_len]; omega) | (rw [unF_len]; omega) | decide +kernel | (simp; omega)
              obtain ⟨x247, hx247⟩ := get_some hlt_hx247
              refine ha_yl 23 hF rfl rfl rfl (by kernel_rfl) (by kernel_rfl) (by kernel_rfl) (by decide) (fun _ _ _ h => h) (wn_t hF rfl rfl rfl rfl) (.inr hSS) (yl_indexAddr hF rfl rfl rfl (fun _ => run_idx' (k := 2) sl26 sz36 (hS.rdRow 0 rfl) hlt_hx247)) ?_
              clear hF; intro a hF
              refine ha_yl 24 hF rfl rfl rfl (by kernel_rfl) (by kernel_rfl) (by kernel_rfl) (by decide) (fun _ _ _ h => h) (wn_t hF rfl rfl rfl rfl) (.inr hSS) (yl_fieldAddr hF rfl rfl (fun w => run_fa fo36_2)) ?_
              clear hF; intro a hF
              refine ha_yl 26 hF rfl rfl rfl (by kernel_rfl) (by kernel_rfl) (by kernel_rfl) (by decide) (fun _ _ _ h => h) (wn_t hF rfl rfl rfl rfl) (.inr hSS) (yl_indexAddr hF rfl rfl rfl (fun w => by kernel_rfl : ∀ w, (Instr.indexAt 44 (.pointer (some ⟨g218, 0, none⟩)) (.int .i64 2)).run Try.prog w = .ok (.pointer (some ⟨g218, 2, none⟩)) w)) ?_
              clear hF; intro a hF
              refine ha_ld 25 hF rfl rfl rfl (by kernel_rfl) (by kernel_rfl) (by kernel_rfl) (by decide) (by kernel_rfl) (by kernel_rfl) (fun _ _ _ h => h) (wn_t hF rfl rfl rfl rfl) hSS (yl_loadAt hF rfl rfl ag3 (fun _ h => rd_cell (j := 2) (enc := enc36) (Sat.rdRow h 0 rfl) enc36_len hx247 rfl rfl)) ?_
              clear hF; intro a hF
              refine ha_ld 27 hF rfl rfl rfl (by kernel_rfl) (by kernel_rfl) (by kernel_rfl) (by decide) (by kernel_rfl) (by kernel_rfl) (fun _ _ _ h => h) (wn_t hF rfl rfl rfl rfl) hSS (yl_load (fun _ h => h) hF rfl rfl 1 rfl ag3 rfl) ?_
              clear hF; intro a hF
              refine ha_yl 28 hF rfl rfl rfl (by kernel_rfl) (by kernel_rfl) (by kernel_rfl) (by decide) (fun _ _ _ h => h) (wn_t hF rfl rfl rfl rfl) (.inr hSS) (yl_bin hF rfl rfl rfl rfl (fun _ => run_neq)) ?_
              clear hF; intro a hF
              replace hF := fr_set (b' := false) hF (by have h9 := hx247; rw [hch] at h9; cases (Option.some.inj h9 : E36.mk ((((1 : Int) + (r214)))) 0 ((c2)) = x247); rw [decide_eq_false_iff_not]; exact fun h => h rfl)
              refine ha_yl 29 hF rfl rfl rfl (by kernel_rfl) (by kernel_rfl) (by kernel_rfl) (by decide) (fun _ _ _ h => h) (wn_none rfl) (.inr hSS) (yl_pick (u := _) (v := undef) hF rfl rfl (fun h => by cases h) (fun _ => rfl)) ?_
              clear hF; intro a hF
              refine ha_done (by kernel_rfl) ?_ _
              refine then_n ?_
              refine c_cond_f hF rfl ?_
              refine wp_skip ?_
              refine inb_n ?_
              refine then_n ?_
              refine c_region ?_
              refine seq_yl hF (wn_none rfl) rfl rfl (yl_move hF rfl rfl) ?_
              clear hF; intro a hF
              refine seq_yl hF (wn_none rfl) rfl rfl (yl_bin hF rfl rfl rfl rfl (fun _ => run_inc (by omega))) ?_
              clear hF; intro a hF
              refine seq_yl hF (wn_none rfl) rfl rfl (yl_assign hF rfl rfl) ?_
              clear hF; intro a hF
              refine wpList_nil ?_
              refine then_n ?_
              rw [hch] at hS hF
              exact ⟨_, (by omega), n + 1, it229, (((c0) - (r225))), (c1), (c2), (some ad245), cv243, rfl, ⟨by omega, by omega, by omega, by omega, by omega⟩, hF.to [3, 4, 5, 6] rfl, (hS.sub [1, 2, 3, 0] (by decide) (by first | rfl | simp) (by simp))⟩
            · skip
              replace hF := fr_set (b' := false) hF (by assumption)
              refine seq_yl hF (wn_none rfl) rfl rfl (yl_move hF rfl rfl) ?_
              clear hF; intro a hF
              refine seq_yl hF (wn_none rfl) rfl rfl (yl_move hF rfl rfl) ?_
              clear hF; intro a hF
              refine seq_yl hF (wn_none rfl) rfl rfl (yl_indexAddr hF rfl rfl rfl (fun w => by kernel_rfl : ∀ w, (Instr.indexAt 44 (.pointer (some ⟨g218, 0, none⟩)) (.int .i64 0)).run Try.prog w = .ok (.pointer (some ⟨g218, 0, none⟩)) w)) ?_
              clear hF; intro a hF
              refine seq_yl hF (wn_none rfl) rfl rfl (yl_load (fun _ h => h ▸ hS) hF rfl rfl 3 rfl ag3 rfl) ?_
              clear hF; intro a hF
              refine seq_yl hF (wn_none rfl) rfl rfl (yl_bin hF rfl rfl rfl rfl (fun _ => run_leq)) ?_
              clear hF; intro a hF
              refine seq_yl hF (wn_none rfl) rfl rfl (yl_bin hF rfl rfl rfl rfl (fun _ => run_neb Try.underlying4)) ?_
              clear hF; intro a hF
              replace hF := fr_set (b' := false) hF (by have hq : (decide ((r225) ≤ (c0))) = false := decide_eq_false (by (try dsimp only); omega); rw [hq]; rfl)
              refine wpList_nil ?_
              refine then_n ?_
              refine c_cond_f hF rfl ?_
              refine wp_skip ?_
              refine then_n ?_
              refine c_seq ?_
              refine c_region ?_
              refine seq_yl hF (wn_none rfl) rfl rfl (yl_move hF rfl rfl) ?_
              clear hF; intro a hF
              refine seq_yl hF (wn_none rfl) rfl rfl (yl_bin hF rfl rfl rfl rfl (fun _ => run_eql)) ?_
              clear hF; intro a hF
              replace hF := fr_set (b' := false) hF (hdd)
              refine wpList_nil ?_
              refine then_n ?_
              refine c_cond_f hF rfl ?_
              refine wp_skip ?_
              refine then_n ?_
              refine c_seq ?_
              refine ha_startS hS [4, 3] 30 (by kernel_rfl) ?_; clear hS; intro w hS
              have hSS := hS.sub [4, 3] (by decide) rfl (by simp)
              refine ha_yl 0 hF rfl rfl rfl (by kernel_rfl) (by kernel_rfl) (by kernel_rfl) (by decide) (fun _ _ _ h => h) (wn_none rfl) (.inr hSS) (yl_move hF rfl rfl) ?_
              clear hF; intro a hF
              refine ha_yl 1 hF rfl rfl rfl (by kernel_rfl) (by kernel_rfl) (by kernel_rfl) (by decide) (fun _ _ _ h => h) (wn_none rfl) (.inr hSS) (yl_len hF rfl rfl (fun _ => run_lenRd sl26 (hS.rdRow 4 rfl))) ?_
              clear hF; intro a hF
              refine ha_yl 2 hF rfl rfl rfl (by kernel_rfl) (by kernel_rfl) (by kernel_rfl) (by decide) (fun _ _ _ h => h) (wn_none rfl) (.inr hSS) (yl_bin hF rfl rfl rfl rfl (fun _ => run_neq)) ?_
              clear hF; intro a hF
              replace hF := fr_set (b' := false) hF (by rw [decide_eq_false_iff_not]; exact fun h => h rfl)
              refine ha_yl 3 hF rfl rfl rfl (by kernel_rfl) (by kernel_rfl) (by kernel_rfl) (by decide) (fun _ _ _ h => h) (wn_none rfl) (.inr hSS) (yl_move hF rfl rfl) ?_
              clear hF; intro a hF
              refine ha_yl 4 hF rfl rfl rfl (by kernel_rfl) (by kernel_rfl) (by kernel_rfl) (by decide) (fun _ _ _ h => h) (wn_t hF rfl rfl rfl rfl) (.inr hSS) (yl_move hF rfl rfl) ?_
              clear hF; intro a hF
              have hlt_hx248 : 0 < ([E36.mk ((((1 : Int) + (r208)))) 0 c0, E36.mk ((((1 : Int) + (r211)))) 0 c1, E36.mk ((((1 : Int) + (r214)))) 0 c2]).length := by first | omega | (simp; done) | (simp; omega)
              obtain ⟨ad249, rfl⟩ := rd_some (hS.rdRow 4 rfl) hlt_hx248
              obtain ⟨x248, hx248⟩ := get_some hlt_hx248
              refine ha_yl 5 hF rfl rfl rfl (by kernel_rfl) (by kernel_rfl) (by kernel_rfl) (by decide) (fun _ _ _ h => h) (wn_t hF rfl rfl rfl rfl) (.inr hSS) (yl_indexAddr hF rfl rfl rfl (fun _ => run_idx' (k := 0) sl26 sz36 (hS.rdRow 4 rfl) hlt_hx248)) ?_
              clear hF; intro a hF
              refine ha_yl 6 hF rfl rfl rfl (by kernel_rfl) (by kernel_rfl) (by kernel_rfl) (by decide) (fun _ _ _ h => h) (wn_t hF rfl rfl rfl rfl) (.inr hSS) (yl_fieldAddr hF rfl rfl (fun w => run_fa fo36_2)) ?_
              clear hF; intro a hF
              refine ha_yl 8 hF rfl rfl rfl (by kernel_rfl) (by kernel_rfl) (by kernel_rfl) (by decide) (fun _ _ _ h => h) (wn_t hF rfl rfl rfl rfl) (.inr hSS) (yl_indexAddr hF rfl rfl rfl (fun w => by kernel_rfl : ∀ w, (Instr.indexAt 44 (.pointer (some ⟨g218, 0, none⟩)) (.int .i64 0)).run Try.prog w = .ok (.pointer (some ⟨g218, 0, none⟩)) w)) ?_
              clear hF; intro a hF
              refine ha_ld 7 hF rfl rfl rfl (by kernel_rfl) (by kernel_rfl) (by kernel_rfl) (by decide) (by kernel_rfl) (by kernel_rfl) (fun _ _ _ h => h) (wn_t hF rfl rfl rfl rfl) hSS (yl_loadAt hF rfl rfl ag3 (fun _ h => rd_cell (j := 2) (enc := enc36) (Sat.rdRow h 0 rfl) enc36_len hx248 rfl rfl)) ?_
              clear hF; intro a hF
              refine ha_ld 9 hF rfl rfl rfl (by kernel_rfl) (by kernel_rfl) (by kernel_rfl) (by decide) (by kernel_rfl) (by kernel_rfl) (fun _ _ _ h => h) (wn_t hF rfl rfl rfl rfl) hSS (yl_load (fun _ h => h) hF rfl rfl 1 rfl ag3 rfl) ?_
              clear hF; intro a hF
              refine ha_yl 10 hF rfl rfl rfl (by kernel_rfl) (by kernel_rfl) (by kernel_rfl) (by decide) (fun _ _ _ h => h) (wn_t hF rfl rfl rfl rfl) (.inr hSS) (yl_bin hF rfl rfl rfl rfl (fun _ => run_neq)) ?_
              clear hF; intro a hF
              replace hF := fr_set (b' := false) hF (by have h9 := hx248; cases (Option.some.inj h9 : E36.mk ((((1 : Int) + (r208)))) 0 ((c0)) = x248); rw [decide_eq_false_iff_not]; exact fun h => h rfl)
              refine ha_yl 11 hF rfl rfl rfl (by kernel_rfl) (by kernel_rfl) (by kernel_rfl) (by decide) (fun _ _ _ h => h) (wn_none rfl) (.inr hSS) (yl_pick (u := _) (v := undef) hF rfl rfl (fun h => by cases h) (fun _ => rfl)) ?_
              clear hF; intro a hF
              refine ha_yl 12 hF rfl rfl rfl (by kernel_rfl) (by kernel_rfl) (by kernel_rfl) (by decide) (fun _ _ _ h => h) (wn_none rfl) (.inr hSS) (yl_move hF rfl rfl) ?_
              clear hF; intro a hF
              refine ha_yl 13 hF rfl rfl rfl (by kernel_rfl) (by kernel_rfl) (by kernel_rfl) (by decide) (fun _ _ _ h => h) (wn_t hF rfl rfl rfl rfl) (.inr hSS) (yl_move hF rfl rfl) ?_
              clear hF; intro a hF
              have hlt_hx250 : 1 < ([E36.mk ((((1 : Int) + (r208)))) 0 c0, E36.mk ((((1 : Int) + (r211)))) 0 c1, E36.mk ((((1 : Int) + (r214)))) 0 c2]).length := by first | omega | (simp; done) | (simp; omega)
              obtain ⟨x250, hx250⟩ := get_some hlt_hx250
              refine ha_yl 14 hF rfl rfl rfl (by kernel_rfl) (by kernel_rfl) (by kernel_rfl) (by decide) (fun _ _ _ h => h) (wn_t hF rfl rfl rfl rfl) (.inr hSS) (yl_indexAddr hF rfl rfl rfl (fun _ => run_idx' (k := 1) sl26 sz36 (hS.rdRow 4 rfl) hlt_hx250)) ?_
              clear hF; intro a hF
              refine ha_yl 15 hF rfl rfl rfl (by kernel_rfl) (by kernel_rfl) (by kernel_rfl) (by decide) (fun _ _ _ h => h) (wn_t hF rfl rfl rfl rfl) (.inr hSS) (yl_fieldAddr hF rfl rfl (fun w => run_fa fo36_2)) ?_
              clear hF; intro a hF
              refine ha_yl 17 hF rfl rfl rfl (by kernel_rfl) (by kernel_rfl) (by kernel_rfl) (by decide) (fun _ _ _ h => h) (wn_t hF rfl rfl rfl rfl) (.inr hSS) (yl_indexAddr hF rfl rfl rfl (fun w => by kernel_rfl : ∀ w, (Instr.indexAt 44 (.pointer (some ⟨g218, 0, none⟩)) (.int .i64 1)).run Try.prog w = .ok (.pointer (some ⟨g218, 1, none⟩)) w)) ?_
              clear hF; intro a hF
              refine ha_ld 16 hF rfl rfl rfl (by kernel_rfl) (by kernel_rfl) (by kernel_rfl) (by decide) (by kernel_rfl) (by kernel_rfl) (fun _ _ _ h => h) (wn_t hF rfl rfl rfl rfl) hSS (yl_loadAt hF rfl rfl ag3 (fun _ h => rd_cell (j := 2) (enc := enc36) (Sat.rdRow h 0 rfl) enc36_len hx250 rfl rfl)) ?_
              clear hF; intro a hF
              refine ha_ld 18 hF rfl rfl rfl (by kernel_rfl) (by kernel_rfl) (by kernel_rfl) (by decide) (by kernel_rfl) (by kernel_rfl) (fun _ _ _ h => h) (wn_t hF rfl rfl rfl rfl) hSS (yl_load (fun _ h => h) hF rfl rfl 1 rfl ag3 rfl) ?_
              clear hF; intro a hF
              refine ha_yl 19 hF rfl rfl rfl (by kernel_rfl) (by kernel_rfl) (by kernel_rfl) (by decide) (fun _ _ _ h => h) (wn_t hF rfl rfl rfl rfl) (.inr hSS) (yl_bin hF rfl rfl rfl rfl (fun _ => run_neq)) ?_
              clear hF; intro a hF
              replace hF := fr_set (b' := false) hF (by have h9 := hx250; cases (Option.some.inj h9 : E36.mk ((((1 : Int) + (r211)))) 0 ((c1)) = x250); rw [decide_eq_false_iff_not]; exact fun h => h rfl)
              refine ha_yl 20 hF rfl rfl rfl (by kernel_rfl) (by kernel_rfl) (by kernel_rfl) (by decide) (fun _ _ _ h => h) (wn_none rfl) (.inr hSS) (yl_pick (u := _) (v := undef) hF rfl rfl (fun h => by cases h) (fun _ => rfl)) ?_
              clear hF; intro a hF
              refine ha_yl 21 hF rfl rfl rfl (by kernel_rfl) (by kernel_rfl) (by kernel_rfl) (by decide) (fun _ _ _ h => h) (wn_none rfl) (.inr hSS) (yl_move hF rfl rfl) ?_
              clear hF; intro a hF
              refine ha_yl 22 hF rfl rfl rfl (by kernel_rfl) (by kernel_rfl) (by kernel_rfl) (by decide) (fun _ _ _ h => h) (wn_t hF rfl rfl rfl rfl) (.inr hSS) (yl_move hF rfl rfl) ?_
              clear hF; intro a hF
              have hlt_hx251 : 2 < ([E36.mk ((((1 : Int) + (r208)))) 0 c0, E36.mk ((((1 : Int) + (r211)))) 0 c1, E36.mk ((((1 : Int) + (r214)))) 0 c2]).length := by first | omega | (simp; done) | (simp; omega)
              obtain ⟨x251, hx251⟩ := get_some hlt_hx251
              refine ha_yl 23 hF rfl rfl rfl (by kernel_rfl) (by kernel_rfl) (by kernel_rfl) (by decide) (fun _ _ _ h => h) (wn_t hF rfl rfl rfl rfl) (.inr hSS) (yl_indexAddr hF rfl rfl rfl (fun _ => run_idx' (k := 2) sl26 sz36 (hS.rdRow 4 rfl) hlt_hx251)) ?_
              clear hF; intro a hF
              refine ha_yl 24 hF rfl rfl rfl (by kernel_rfl) (by kernel_rfl) (by kernel_rfl) (by decide) (fun _ _ _ h => h) (wn_t hF rfl rfl rfl rfl) (.inr hSS) (yl_fieldAddr hF rfl rfl (fun w => run_fa fo36_2)) ?_
              clear hF; intro a hF
              refine ha_yl 26 hF rfl rfl rfl (by kernel_rfl) (by kernel_rfl) (by kernel_rfl) (by decide) (fun _ _ _ h => h) (wn_t hF rfl rfl rfl rfl) (.inr hSS) (yl_indexAddr hF rfl rfl rfl (fun w => by kernel_rfl : ∀ w, (Instr.indexAt 44 (.pointer (some ⟨g218, 0, none⟩)) (.int .i64 2)).run Try.prog w = .ok (.pointer (some ⟨g218, 2, none⟩)) w)) ?_
              clear hF; intro a hF
              refine ha_ld 25 hF rfl rfl rfl (by kernel_rfl) (by kernel_rfl) (by kernel_rfl) (by decide) (by kernel_rfl) (by kernel_rfl) (fun _ _ _ h => h) (wn_t hF rfl rfl rfl rfl) hSS (yl_loadAt hF rfl rfl ag3 (fun _ h => rd_cell (j := 2) (enc := enc36) (Sat.rdRow h 0 rfl) enc36_len hx251 rfl rfl)) ?_
              clear hF; intro a hF
              refine ha_ld 27 hF rfl rfl rfl (by kernel_rfl) (by kernel_rfl) (by kernel_rfl) (by decide) (by kernel_rfl) (by kernel_rfl) (fun _ _ _ h => h) (wn_t hF rfl rfl rfl rfl) hSS (yl_load (fun _ h => h) hF rfl rfl 1 rfl ag3 rfl) ?_
              clear hF; intro a hF
              refine ha_yl 28 hF rfl rfl rfl (by kernel_rfl) (by kernel_rfl) (by kernel_rfl) (by decide) (fun _ _ _ h => h) (wn_t hF rfl rfl rfl rfl) (.inr hSS) (yl_bin hF rfl rfl rfl rfl (fun _ => run_neq)) ?_
              clear hF; intro a hF
              replace hF := fr_set (b' := false) hF (by have h9 := hx251; cases (Option.some.inj h9 : E36.mk ((((1 : Int) + (r214)))) 0 ((c2)) = x251); rw [decide_eq_false_iff_not]; exact fun h => h rfl)
              refine ha_yl 29 hF rfl rfl rfl (by kernel_rfl) (by kernel_rfl) (by kernel_rfl) (by decide) (fun _ _ _ h => h) (wn_none rfl) (.inr hSS) (yl_pick (u := _) (v := undef) hF rfl rfl (fun h => by cases h) (fun _ => rfl)) ?_
              clear hF; intro a hF
              refine ha_done (by kernel_rfl) ?_ _
              refine then_n ?_
              refine c_cond_f hF rfl ?_
              refine wp_skip ?_
              refine inb_n ?_
              refine then_n ?_
              refine c_region ?_
              refine seq_yl hF (wn_none rfl) rfl rfl (yl_move hF rfl rfl) ?_
              clear hF; intro a hF
              refine seq_yl hF (wn_none rfl) rfl rfl (yl_bin hF rfl rfl rfl rfl (fun _ => run_inc (by omega))) ?_
              clear hF; intro a hF
              refine seq_yl hF (wn_none rfl) rfl rfl (yl_assign hF rfl rfl) ?_
              clear hF; intro a hF
              refine wpList_nil ?_
              refine then_n ?_
              exact ⟨_, (by omega), n + 1, it229, (c0), (c1), (c2), (some ad249), cvG, rfl, ⟨by omega, by omega, by omega, by omega, by omega⟩, hF.to [3, 4, 5, 6] rfl, (hS.sub [1, 2, 3, 4] (by decide) (by first | rfl | simp) (by simp))⟩
        · skip
          replace hF := fr_seti (b' := 1) hF (by assumption)
          refine seq_yl hF (wn_none rfl) rfl rfl (yl_move hF rfl rfl) ?_
          clear hF; intro a hF
          refine seq_wp (wn_none rfl) (wp_call (vs := [_, _]) hF rfl rfl rfl rfl cf9 (next_any _ _ _ _ _ _ _ (it223 : Nat) (8 : Int) (by omega) hS (by omega) (by omega)) ?_)
          clear hF; rintro _ w ⟨r252, it253, rfl, hb254, hiit253, hS1⟩ a hF; replace hS := hS1; clear hS1
          refine seq_yl hF (wn_none rfl) rfl rfl (yl_assign hF rfl rfl) ?_
          clear hF; intro a hF
          refine seq_yl hF (wn_none rfl) rfl rfl (yl_assign hF rfl rfl) ?_
          clear hF; intro a hF
          refine wpList_nil ?_
          refine then_n ?_
          refine c_seq ?_
          refine c_seq ?_
          refine c_region ?_
          refine seq_yl hF (wn_none rfl) rfl rfl (yl_move hF rfl rfl) ?_
          clear hF; intro a hF
          refine seq_wp (wn_none rfl) (wp_call (vs := [_, _]) hF rfl rfl rfl rfl cf9 (next_any _ _ _ _ _ _ _ (it253 : Nat) (2 : Int) (by omega) hS (by omega) (by omega)) ?_)
          clear hF; rintro _ w ⟨r255, it256, rfl, hb257, hiit256, hS1⟩ a hF; replace hS := hS1; clear hS1
          refine seq_yl hF (wn_none rfl) rfl rfl (yl_bin hF rfl rfl rfl rfl (fun _ => run_eql)) ?_
          clear hF; intro a hF
          refine wpList_nil ?_
          refine then_n ?_
          refine c_cond hF rfl (fun hc258 => ?_) (fun hc258 => ?_)
          · first | (replace hc258 := of_decide_eq_true hc258) | (replace hc258 := of_decide_eq_false (bnot_t hc258)) | (subst hc258) | (replace hc258 := bnot_t hc258; subst hc258) | (replace hc258 := bnot_t hc258) | skip
            refine c_seq ?_
            refine c_region ?_
            refine seq_yl hF (wn_none rfl) rfl rfl (yl_move hF rfl rfl) ?_
            clear hF; intro a hF
            refine seq_yl hF (wn_none rfl) rfl rfl (yl_move hF rfl rfl) ?_
            clear hF; intro a hF
            refine seq_yl hF (wn_none rfl) rfl rfl (yl_move hF rfl rfl) ?_
            clear hF; intro a hF
            refine seq_wp (wn_none rfl) (wp_call (vs := [_, _, _]) hF rfl rfl rfl rfl cf11 (charge_any _ [E36.mk ((((1 : Int) + (r208)))) 0 c0, E36.mk ((((1 : Int) + (r211)))) 0 c1, E36.mk ((((1 : Int) + (r214)))) 0 c2] (1 : Int) (r252) _ (hS.rdRow 3 rfl) (by first | omega | (simp; done) | (simp; omega) | (rw [chF_len]; first | omega | (simp; done) | (simp; omega)) | (rw [unF_len]; first | omega | (simp; done) | (simp; omega)))) ?_)
            clear hF; rintro _ w ⟨v259, rfl, hS1⟩ a hF
            replace hS := hS.callB hS1 rfl; clear hS1
            obtain ⟨Av259, cv259, rfl⟩ := hS.form 0 rfl
            refine seq_yl hF (wn_none rfl) rfl rfl (yl_move hF rfl rfl) ?_
            clear hF; intro a hF
            refine seq_yl hF (wn_none rfl) rfl rfl (yl_extract hF rfl rfl rfl) ?_
            clear hF; intro a hF
            refine seq_yl hF (wn_none rfl) rfl rfl (yl_extract hF rfl rfl rfl) ?_
            clear hF; intro a hF
            refine seq_yl hF (wn_none rfl) rfl rfl (yl_assign hF rfl rfl) ?_
            clear hF; intro a hF
            refine seq_yl hF (wn_none rfl) rfl rfl (yl_assign hF rfl rfl) ?_
            clear hF; intro a hF
            refine wpList_nil ?_
            refine then_n ?_
            refine c_seq ?_
            refine c_seq ?_
            refine ha_startS hS [3, 4] 14 (by kernel_rfl) ?_; clear hS; intro w hS
            have hSS := hS.sub [3, 4] (by decide) rfl (by simp)
            refine ha_yl 0 hF rfl rfl rfl (by kernel_rfl) (by kernel_rfl) (by kernel_rfl) (by decide) (fun _ _ _ h => h) (wn_none rfl) (.inr hSS) (yl_move hF rfl rfl) ?_
            clear hF; intro a hF
            refine ha_yl 1 hF rfl rfl rfl (by kernel_rfl) (by kernel_rfl) (by kernel_rfl) (by decide) (fun _ _ _ h => h) (wn_none rfl) (.inr hSS) (yl_bin hF rfl rfl rfl rfl (fun _ => run_eql)) ?_
            clear hF; intro a hF
            rcases acc_ch (G := [E36.mk ((((1 : Int) + (r208)))) 0 c0, E36.mk ((((1 : Int) + (r211)))) 0 c1, E36.mk ((((1 : Int) + (r214)))) 0 c2]) 1 (1 : Int) rfl (k := (r252)) (x := E36.mk ((((1 : Int) + (r211)))) 0 c1) hchk rfl (by omega) with ⟨hdd, hle, hch⟩ | ⟨hdd, hle, hch⟩ <;> dsimp only at hle
            · skip
              replace hF := fr_set (b' := true) hF (by assumption)
              refine ha_yl 2 hF rfl rfl rfl (by kernel_rfl) (by kernel_rfl) (by kernel_rfl) (by decide) (fun _ _ _ h => h) (wn_none rfl) (.inr hSS) (yl_move hF rfl rfl) ?_
              clear hF; intro a hF
              refine ha_yl 3 hF rfl rfl rfl (by kernel_rfl) (by kernel_rfl) (by kernel_rfl) (by decide) (fun _ _ _ h => h) (wn_none rfl) (.inr hSS) (yl_indexAddr hF rfl rfl rfl (fun w => by kernel_rfl : ∀ w, (Instr.indexAt 44 (.pointer (some ⟨g218, 0, none⟩)) (.int .i64 1)).run Try.prog w = .ok (.pointer (some ⟨g218, 1, none⟩)) w)) ?_
              clear hF; intro a hF
              refine ha_yl 5 hF rfl rfl rfl (by kernel_rfl) (by kernel_rfl) (by kernel_rfl) (by decide) (fun _ _ _ h => h) (wn_none rfl) (.inr hSS) (yl_move hF rfl rfl) ?_
              clear hF; intro a hF
              refine ha_yl 7 hF rfl rfl rfl (by kernel_rfl) (by kernel_rfl) (by kernel_rfl) (by decide) (fun _ _ _ h => h) (wn_none rfl) (.inr hSS) (yl_move hF rfl rfl) ?_
              clear hF; intro a hF
              refine ha_yl 8 hF rfl rfl rfl (by kernel_rfl) (by kernel_rfl) (by kernel_rfl) (by decide) (fun _ _ _ h => h) (wn_none rfl) (.inr hSS) (yl_move hF rfl rfl) ?_
              clear hF; intro a hF
              have hlt_hx260 : 1 < ([E36.mk ((((1 : Int) + (r208)))) 0 c0, E36.mk ((((1 : Int) + (r211)))) 0 c1, E36.mk ((((1 : Int) + (r214)))) 0 c2]).length := by first | omega | (simp; done) | (simp; omega)
              obtain ⟨ad261, rfl⟩ := rd_some (hS.rdRow 4 rfl) hlt_hx260
              obtain ⟨x260, hx260⟩ := get_some hlt_hx260
              refine ha_yl 9 hF rfl rfl rfl (by kernel_rfl) (by kernel_rfl) (by kernel_rfl) (by decide) (fun _ _ _ h => h) (wn_none rfl) (.inr hSS) (yl_indexAddr hF rfl rfl rfl (fun _ => run_idx' (k := 1) sl26 sz36 (hS.rdRow 4 rfl) hlt_hx260)) ?_
              clear hF; intro a hF
              refine ha_yl 10 hF rfl rfl rfl (by kernel_rfl) (by kernel_rfl) (by kernel_rfl) (by decide) (fun _ _ _ h => h) (wn_none rfl) (.inr hSS) (yl_fieldAddr hF rfl rfl (fun w => run_fa0 fo36_0)) ?_
              clear hF; intro a hF
              refine ha_ld 4 hF rfl rfl rfl (by kernel_rfl) (by kernel_rfl) (by kernel_rfl) (by decide) (by kernel_rfl) (by kernel_rfl) (fun _ _ _ h => h) (wn_none rfl) hSS (yl_load (fun _ h => h) hF rfl rfl 0 rfl ag3 rfl) ?_
              clear hF; intro a hF
              refine ha_yl 6 hF rfl rfl rfl (by kernel_rfl) (by kernel_rfl) (by kernel_rfl) (by decide) (fun _ _ _ h => h) (wn_none rfl) (.inr hSS) (yl_bin hF rfl rfl rfl rfl (fun _ => run_add (by refine ⟨?_, ?_⟩ <;> omega))) ?_
              clear hF; intro a hF
              refine ha_ld 11 hF rfl rfl rfl (by kernel_rfl) (by kernel_rfl) (by kernel_rfl) (by decide) (by kernel_rfl) (by kernel_rfl) (fun _ _ _ h => h) (wn_none rfl) hSS (yl_loadAt hF rfl rfl ag3 (fun _ h => rd_cell0 (enc := enc36) (Sat.rdRow h 1 rfl) enc36_len hx260 rfl rfl)) ?_
              clear hF; intro a hF
              refine ha_yl 12 hF rfl rfl rfl (by kernel_rfl) (by kernel_rfl) (by kernel_rfl) (by decide) (fun _ _ _ h => h) (wn_none rfl) (.inr hSS) (yl_bin hF rfl rfl rfl rfl (fun _ => run_leq)) ?_
              clear hF; intro a hF
              refine ha_yl 13 hF rfl rfl rfl (by kernel_rfl) (by kernel_rfl) (by kernel_rfl) (by decide) (fun _ _ _ h => h) (wn_none rfl) (.inr hSS) (yl_bin hF rfl rfl rfl rfl (fun _ => run_neb Try.underlying4)) ?_
              clear hF; intro a hF
              replace hF := fr_set (b' := false) hF (by have hq : (decide ((((c1) + (r252))) ≤ (x260.f0))) = true := decide_eq_true (by cases (Option.some.inj hx260 : E36.mk ((((1 : Int) + (r211)))) 0 c1 = x260); (try dsimp only); omega); rw [hq]; rfl)
              refine ha_done (by kernel_rfl) ?_ _
              refine then_n ?_
              refine c_cond_f hF rfl ?_
              refine wp_skip ?_
              refine then_n ?_
              refine c_seq ?_
              refine c_region ?_
              refine seq_yl hF (wn_none rfl) rfl rfl (yl_move hF rfl rfl) ?_
              clear hF; intro a hF
              refine seq_yl hF (wn_none rfl) rfl rfl (yl_bin hF rfl rfl rfl rfl (fun _ => run_eql)) ?_
              clear hF; intro a hF
              replace hF := fr_set (b' := true) hF (hdd)
              refine wpList_nil ?_
              refine then_n ?_
              refine c_cond_t hF rfl ?_
              refine c_seq ?_
              refine c_region ?_
              refine seq_yl hF (wn_none rfl) rfl rfl (yl_move hF rfl rfl) ?_
              clear hF; intro a hF
              refine seq_yl hF (wn_none rfl) rfl rfl (yl_assign hF rfl rfl) ?_
              clear hF; intro a hF
              refine wpList_nil ?_
              refine then_n ?_
              refine c_region ?_
              refine seq_yl hF (wn_none rfl) rfl rfl (yl_move hF rfl rfl) ?_
              clear hF; intro a hF
              refine seq_yl hF (wn_none rfl) rfl rfl (yl_indexAddr hF rfl rfl rfl (fun w => by kernel_rfl : ∀ w, (Instr.indexAt 44 (.pointer (some ⟨g218, 0, none⟩)) (.int .i64 1)).run Try.prog w = .ok (.pointer (some ⟨g218, 1, none⟩)) w)) ?_
              clear hF; intro a hF
              refine seq_yl hF (wn_none rfl) rfl rfl (yl_load (fun _ h => h ▸ hS) hF rfl rfl 3 rfl ag3 rfl) ?_
              clear hF; intro a hF
              refine seq_yl hF (wn_none rfl) rfl rfl (yl_move hF rfl rfl) ?_
              clear hF; intro a hF
              refine seq_yl hF (wn_none rfl) rfl rfl (yl_bin hF rfl rfl rfl rfl (fun _ => run_add (by refine ⟨?_, ?_⟩ <;> omega))) ?_
              clear hF; intro a hF
              refine seq_yl hF (wn_none rfl) rfl rfl (yl_indexAddr hF rfl rfl rfl (fun w => by kernel_rfl : ∀ w, (Instr.indexAt 44 (.pointer (some ⟨g218, 0, none⟩)) (.int .i64 1)).run Try.prog w = .ok (.pointer (some ⟨g218, 1, none⟩)) w)) ?_
              clear hF; intro a hF
              refine seq_wp (wn_none rfl) (wp_store (cs' := #[_, _, _]) hF hS rfl rfl rfl rfl 3 rfl sz3 (by simp [Value.cells, Value.oneCell']) (by simp [Value.cells]) rfl ?_)
              clear hF hS; intro a w hF hS
              refine wpList_nil ?_
              refine then_n ?_
              refine c_seq ?_
              refine ha_startS hS [0, 3] 30 (by kernel_rfl) ?_; clear hS; intro w hS
              have hSS := hS.sub [0, 3] (by decide) rfl (by simp)
              refine ha_yl 0 hF rfl rfl rfl (by kernel_rfl) (by kernel_rfl) (by kernel_rfl) (by decide) (fun _ _ _ h => h) (wn_none rfl) (.inr hSS) (yl_move hF rfl rfl) ?_
              clear hF; intro a hF
              refine ha_yl 1 hF rfl rfl rfl (by kernel_rfl) (by kernel_rfl) (by kernel_rfl) (by decide) (fun _ _ _ h => h) (wn_none rfl) (.inr hSS) (yl_len hF rfl rfl (fun _ => run_lenRd sl26 (hS.rdRow 0 rfl))) ?_
              clear hF; intro a hF
              refine ha_yl 2 hF rfl rfl rfl (by kernel_rfl) (by kernel_rfl) (by kernel_rfl) (by decide) (fun _ _ _ h => h) (wn_none rfl) (.inr hSS) (yl_bin hF rfl rfl rfl rfl (fun _ => run_neq)) ?_
              clear hF; intro a hF
              replace hF := fr_set (b' := false) hF (by rw [decide_eq_false_iff_not]; rw [hch]; exact fun h => h rfl)
              refine ha_yl 3 hF rfl rfl rfl (by kernel_rfl) (by kernel_rfl) (by kernel_rfl) (by decide) (fun _ _ _ h => h) (wn_none rfl) (.inr hSS) (yl_move hF rfl rfl) ?_
              clear hF; intro a hF
              refine ha_yl 4 hF rfl rfl rfl (by kernel_rfl) (by kernel_rfl) (by kernel_rfl) (by decide) (fun _ _ _ h => h) (wn_t hF rfl rfl rfl rfl) (.inr hSS) (yl_move hF rfl rfl) ?_
              clear hF; intro a hF
              have hlt_hx262 : 0 < ((chF [E36.mk ((((1 : Int) + (r208)))) 0 c0, E36.mk ((((1 : Int) + (r211)))) 0 c1, E36.mk ((((1 : Int) + (r214)))) 0 c2] (1 : Int) (r252)).1).length := by first | omega | (rw [chF_len]; simp; done) | (rw [unF_len]; simp; done) | (rw [chF_len, unF_len]; omega) | (rw [chF_len]; omega) | (rw [unF_len]; omega) | decide +kernel | (simp; omega)
              obtain ⟨ad263, rfl⟩ := rd_some (hS.rdRow 0 rfl) hlt_hx262
              obtain ⟨x262, hx262⟩ := get_some hlt_hx262
              refine ha_yl 5 hF rfl rfl rfl (by kernel_rfl) (by kernel_rfl) (by kernel_rfl) (by decide) (fun _ _ _ h => h) (wn_t hF rfl rfl rfl rfl) (.inr hSS) (yl_indexAddr hF rfl rfl rfl (fun _ => run_idx' (k := 0) sl26 sz36 (hS.rdRow 0 rfl) hlt_hx262)) ?_
              clear hF; intro a hF
              refine ha_yl 6 hF rfl rfl rfl (by kernel_rfl) (by kernel_rfl) (by kernel_rfl) (by decide) (fun _ _ _ h => h) (wn_t hF rfl rfl rfl rfl) (.inr hSS) (yl_fieldAddr hF rfl rfl (fun w => run_fa fo36_2)) ?_
              clear hF; intro a hF
              refine ha_yl 8 hF rfl rfl rfl (by kernel_rfl) (by kernel_rfl) (by kernel_rfl) (by decide) (fun _ _ _ h => h) (wn_t hF rfl rfl rfl rfl) (.inr hSS) (yl_indexAddr hF rfl rfl rfl (fun w => by kernel_rfl : ∀ w, (Instr.indexAt 44 (.pointer (some ⟨g218, 0, none⟩)) (.int .i64 0)).run Try.prog w = .ok (.pointer (some ⟨g218, 0, none⟩)) w)) ?_
              clear hF; intro a hF
              refine ha_ld 7 hF rfl rfl rfl (by kernel_rfl) (by kernel_rfl) (by kernel_rfl) (by decide) (by kernel_rfl) (by kernel_rfl) (fun _ _ _ h => h) (wn_t hF rfl rfl rfl rfl) hSS (yl_loadAt hF rfl rfl ag3 (fun _ h => rd_cell (j := 2) (enc := enc36) (Sat.rdRow h 0 rfl) enc36_len hx262 rfl rfl)) ?_
              clear hF; intro a hF
              refine ha_ld 9 hF rfl rfl rfl (by kernel_rfl) (by kernel_rfl) (by kernel_rfl) (by decide) (by kernel_rfl) (by kernel_rfl) (fun _ _ _ h => h) (wn_t hF rfl rfl rfl rfl) hSS (yl_load (fun _ h => h) hF rfl rfl 1 rfl ag3 rfl) ?_
              clear hF; intro a hF
              refine ha_yl 10 hF rfl rfl rfl (by kernel_rfl) (by kernel_rfl) (by kernel_rfl) (by decide) (fun _ _ _ h => h) (wn_t hF rfl rfl rfl rfl) (.inr hSS) (yl_bin hF rfl rfl rfl rfl (fun _ => run_neq)) ?_
              clear hF; intro a hF
              replace hF := fr_set (b' := false) hF (by have h9 := hx262; rw [hch] at h9; cases (Option.some.inj h9 : E36.mk ((((1 : Int) + (r208)))) 0 ((c0)) = x262); rw [decide_eq_false_iff_not]; exact fun h => h rfl)
              refine ha_yl 11 hF rfl rfl rfl (by kernel_rfl) (by kernel_rfl) (by kernel_rfl) (by decide) (fun _ _ _ h => h) (wn_none rfl) (.inr hSS) (yl_pick (u := _) (v := undef) hF rfl rfl (fun h => by cases h) (fun _ => rfl)) ?_
              clear hF; intro a hF
              refine ha_yl 12 hF rfl rfl rfl (by kernel_rfl) (by kernel_rfl) (by kernel_rfl) (by decide) (fun _ _ _ h => h) (wn_none rfl) (.inr hSS) (yl_move hF rfl rfl) ?_
              clear hF; intro a hF
              refine ha_yl 13 hF rfl rfl rfl (by kernel_rfl) (by kernel_rfl) (by kernel_rfl) (by decide) (fun _ _ _ h => h) (wn_t hF rfl rfl rfl rfl) (.inr hSS) (yl_move hF rfl rfl) ?_
              clear hF; intro a hF
              have hlt_hx264 : 1 < ((chF [E36.mk ((((1 : Int) + (r208)))) 0 c0, E36.mk ((((1 : Int) + (r211)))) 0 c1, E36.mk ((((1 : Int) + (r214)))) 0 c2] (1 : Int) (r252)).1).length := by first | omega | (rw [chF_len]; simp; done) | (rw [unF_len]; simp; done) | (rw [chF_len, unF_len]; omega) | (rw [chF_len]; omega) | (rw [unF_len]; omega) | decide +kernel | (simp; omega)
              obtain ⟨x264, hx264⟩ := get_some hlt_hx264
              refine ha_yl 14 hF rfl rfl rfl (by kernel_rfl) (by kernel_rfl) (by kernel_rfl) (by decide) (fun _ _ _ h => h) (wn_t hF rfl rfl rfl rfl) (.inr hSS) (yl_indexAddr hF rfl rfl rfl (fun _ => run_idx' (k := 1) sl26 sz36 (hS.rdRow 0 rfl) hlt_hx264)) ?_
              clear hF; intro a hF
              refine ha_yl 15 hF rfl rfl rfl (by kernel_rfl) (by kernel_rfl) (by kernel_rfl) (by decide) (fun _ _ _ h => h) (wn_t hF rfl rfl rfl rfl) (.inr hSS) (yl_fieldAddr hF rfl rfl (fun w => run_fa fo36_2)) ?_
              clear hF; intro a hF
              refine ha_yl 17 hF rfl rfl rfl (by kernel_rfl) (by kernel_rfl) (by kernel_rfl) (by decide) (fun _ _ _ h => h) (wn_t hF rfl rfl rfl rfl) (.inr hSS) (yl_indexAddr hF rfl rfl rfl (fun w => by kernel_rfl : ∀ w, (Instr.indexAt 44 (.pointer (some ⟨g218, 0, none⟩)) (.int .i64 1)).run Try.prog w = .ok (.pointer (some ⟨g218, 1, none⟩)) w)) ?_
              clear hF; intro a hF
              refine ha_ld 16 hF rfl rfl rfl (by kernel_rfl) (by kernel_rfl) (by kernel_rfl) (by decide) (by kernel_rfl) (by kernel_rfl) (fun _ _ _ h => h) (wn_t hF rfl rfl rfl rfl) hSS (yl_loadAt hF rfl rfl ag3 (fun _ h => rd_cell (j := 2) (enc := enc36) (Sat.rdRow h 0 rfl) enc36_len hx264 rfl rfl)) ?_
              clear hF; intro a hF
              refine ha_ld 18 hF rfl rfl rfl (by kernel_rfl) (by kernel_rfl) (by kernel_rfl) (by decide) (by kernel_rfl) (by kernel_rfl) (fun _ _ _ h => h) (wn_t hF rfl rfl rfl rfl) hSS (yl_load (fun _ h => h) hF rfl rfl 1 rfl ag3 rfl) ?_
              clear hF; intro a hF
              refine ha_yl 19 hF rfl rfl rfl (by kernel_rfl) (by kernel_rfl) (by kernel_rfl) (by decide) (fun _ _ _ h => h) (wn_t hF rfl rfl rfl rfl) (.inr hSS) (yl_bin hF rfl rfl rfl rfl (fun _ => run_neq)) ?_
              clear hF; intro a hF
              replace hF := fr_set (b' := false) hF (by have h9 := hx264; rw [hch] at h9; cases (Option.some.inj h9 : E36.mk ((((1 : Int) + (r211)))) 0 ((((c1) + (r252)))) = x264); rw [decide_eq_false_iff_not]; exact fun h => h rfl)
              refine ha_yl 20 hF rfl rfl rfl (by kernel_rfl) (by kernel_rfl) (by kernel_rfl) (by decide) (fun _ _ _ h => h) (wn_none rfl) (.inr hSS) (yl_pick (u := _) (v := undef) hF rfl rfl (fun h => by cases h) (fun _ => rfl)) ?_
              clear hF; intro a hF
              refine ha_yl 21 hF rfl rfl rfl (by kernel_rfl) (by kernel_rfl) (by kernel_rfl) (by decide) (fun _ _ _ h => h) (wn_none rfl) (.inr hSS) (yl_move hF rfl rfl) ?_
              clear hF; intro a hF
              refine ha_yl 22 hF rfl rfl rfl (by kernel_rfl) (by kernel_rfl) (by kernel_rfl) (by decide) (fun _ _ _ h => h) (wn_t hF rfl rfl rfl rfl) (.inr hSS) (yl_move hF rfl rfl) ?_
              clear hF; intro a hF
              have hlt_hx265 : 2 < ((chF [E36.mk ((((1 : Int) + (r208)))) 0 c0, E36.mk ((((1 : Int) + (r211)))) 0 c1, E36.mk ((((1 : Int) + (r214)))) 0 c2] (1 : Int) (r252)).1).length := by first | omega | (rw [chF_len]; simp; done) | (rw [unF_len]; simp; done) | (rw [chF_len, unF_len]; omega) | (rw [chF_len]; omega) | (rw [unF_len]; omega) | decide +kernel | (simp; omega)
              obtain ⟨x265, hx265⟩ := get_some hlt_hx265
              refine ha_yl 23 hF rfl rfl rfl (by kernel_rfl) (by kernel_rfl) (by kernel_rfl) (by decide) (fun _ _ _ h => h) (wn_t hF rfl rfl rfl rfl) (.inr hSS) (yl_indexAddr hF rfl rfl rfl (fun _ => run_idx' (k := 2) sl26 sz36 (hS.rdRow 0 rfl) hlt_hx265)) ?_
              clear hF; intro a hF
              refine ha_yl 24 hF rfl rfl rfl (by kernel_rfl) (by kernel_rfl) (by kernel_rfl) (by decide) (fun _ _ _ h => h) (wn_t hF rfl rfl rfl rfl) (.inr hSS) (yl_fieldAddr hF rfl rfl (fun w => run_fa fo36_2)) ?_
              clear hF; intro a hF
              refine ha_yl 26 hF rfl rfl rfl (by kernel_rfl) (by kernel_rfl) (by kernel_rfl) (by decide) (fun _ _ _ h => h) (wn_t hF rfl rfl rfl rfl) (.inr hSS) (yl_indexAddr hF rfl rfl rfl (fun w => by kernel_rfl : ∀ w, (Instr.indexAt 44 (.pointer (some ⟨g218, 0, none⟩)) (.int .i64 2)).run Try.prog w = .ok (.pointer (some ⟨g218, 2, none⟩)) w)) ?_
              clear hF; intro a hF
              refine ha_ld 25 hF rfl rfl rfl (by kernel_rfl) (by kernel_rfl) (by kernel_rfl) (by decide) (by kernel_rfl) (by kernel_rfl) (fun _ _ _ h => h) (wn_t hF rfl rfl rfl rfl) hSS (yl_loadAt hF rfl rfl ag3 (fun _ h => rd_cell (j := 2) (enc := enc36) (Sat.rdRow h 0 rfl) enc36_len hx265 rfl rfl)) ?_
              clear hF; intro a hF
              refine ha_ld 27 hF rfl rfl rfl (by kernel_rfl) (by kernel_rfl) (by kernel_rfl) (by decide) (by kernel_rfl) (by kernel_rfl) (fun _ _ _ h => h) (wn_t hF rfl rfl rfl rfl) hSS (yl_load (fun _ h => h) hF rfl rfl 1 rfl ag3 rfl) ?_
              clear hF; intro a hF
              refine ha_yl 28 hF rfl rfl rfl (by kernel_rfl) (by kernel_rfl) (by kernel_rfl) (by decide) (fun _ _ _ h => h) (wn_t hF rfl rfl rfl rfl) (.inr hSS) (yl_bin hF rfl rfl rfl rfl (fun _ => run_neq)) ?_
              clear hF; intro a hF
              replace hF := fr_set (b' := false) hF (by have h9 := hx265; rw [hch] at h9; cases (Option.some.inj h9 : E36.mk ((((1 : Int) + (r214)))) 0 ((c2)) = x265); rw [decide_eq_false_iff_not]; exact fun h => h rfl)
              refine ha_yl 29 hF rfl rfl rfl (by kernel_rfl) (by kernel_rfl) (by kernel_rfl) (by decide) (fun _ _ _ h => h) (wn_none rfl) (.inr hSS) (yl_pick (u := _) (v := undef) hF rfl rfl (fun h => by cases h) (fun _ => rfl)) ?_
              clear hF; intro a hF
              refine ha_done (by kernel_rfl) ?_ _
              refine then_n ?_
              refine c_cond_f hF rfl ?_
              refine wp_skip ?_
              refine inb_n ?_
              refine then_n ?_
              refine c_region ?_
              refine seq_yl hF (wn_none rfl) rfl rfl (yl_move hF rfl rfl) ?_
              clear hF; intro a hF
              refine seq_yl hF (wn_none rfl) rfl rfl (yl_bin hF rfl rfl rfl rfl (fun _ => run_inc (by omega))) ?_
              clear hF; intro a hF
              refine seq_yl hF (wn_none rfl) rfl rfl (yl_assign hF rfl rfl) ?_
              clear hF; intro a hF
              refine wpList_nil ?_
              refine then_n ?_
              rw [hch] at hS hF
              exact ⟨_, (by omega), n + 1, it256, (c0), (((c1) + (r252))), (c2), (some ad263), cv259, rfl, ⟨by omega, by omega, by omega, by omega, by omega⟩, hF.to [3, 4, 5, 6] rfl, (hS.sub [1, 2, 3, 0] (by decide) (by first | rfl | simp) (by simp))⟩
            · skip
              replace hF := fr_set (b' := false) hF (by assumption)
              refine ha_yl 2 hF rfl rfl rfl (by kernel_rfl) (by kernel_rfl) (by kernel_rfl) (by decide) (fun _ _ _ h => h) (wn_none rfl) (.inr hSS) (yl_move hF rfl rfl) ?_
              clear hF; intro a hF
              refine ha_yl 3 hF rfl rfl rfl (by kernel_rfl) (by kernel_rfl) (by kernel_rfl) (by decide) (fun _ _ _ h => h) (wn_none rfl) (.inr hSS) (yl_indexAddr hF rfl rfl rfl (fun w => by kernel_rfl : ∀ w, (Instr.indexAt 44 (.pointer (some ⟨g218, 0, none⟩)) (.int .i64 1)).run Try.prog w = .ok (.pointer (some ⟨g218, 1, none⟩)) w)) ?_
              clear hF; intro a hF
              refine ha_yl 5 hF rfl rfl rfl (by kernel_rfl) (by kernel_rfl) (by kernel_rfl) (by decide) (fun _ _ _ h => h) (wn_none rfl) (.inr hSS) (yl_move hF rfl rfl) ?_
              clear hF; intro a hF
              refine ha_yl 7 hF rfl rfl rfl (by kernel_rfl) (by kernel_rfl) (by kernel_rfl) (by decide) (fun _ _ _ h => h) (wn_none rfl) (.inr hSS) (yl_move hF rfl rfl) ?_
              clear hF; intro a hF
              refine ha_yl 8 hF rfl rfl rfl (by kernel_rfl) (by kernel_rfl) (by kernel_rfl) (by decide) (fun _ _ _ h => h) (wn_none rfl) (.inr hSS) (yl_move hF rfl rfl) ?_
              clear hF; intro a hF
              have hlt_hx266 : 1 < ([E36.mk ((((1 : Int) + (r208)))) 0 c0, E36.mk ((((1 : Int) + (r211)))) 0 c1, E36.mk ((((1 : Int) + (r214)))) 0 c2]).length := by first | omega | (simp; done) | (simp; omega)
              obtain ⟨ad267, rfl⟩ := rd_some (hS.rdRow 4 rfl) hlt_hx266
              obtain ⟨x266, hx266⟩ := get_some hlt_hx266
              refine ha_yl 9 hF rfl rfl rfl (by kernel_rfl) (by kernel_rfl) (by kernel_rfl) (by decide) (fun _ _ _ h => h) (wn_none rfl) (.inr hSS) (yl_indexAddr hF rfl rfl rfl (fun _ => run_idx' (k := 1) sl26 sz36 (hS.rdRow 4 rfl) hlt_hx266)) ?_
              clear hF; intro a hF
              refine ha_yl 10 hF rfl rfl rfl (by kernel_rfl) (by kernel_rfl) (by kernel_rfl) (by decide) (fun _ _ _ h => h) (wn_none rfl) (.inr hSS) (yl_fieldAddr hF rfl rfl (fun w => run_fa0 fo36_0)) ?_
              clear hF; intro a hF
              refine ha_ld 4 hF rfl rfl rfl (by kernel_rfl) (by kernel_rfl) (by kernel_rfl) (by decide) (by kernel_rfl) (by kernel_rfl) (fun _ _ _ h => h) (wn_none rfl) hSS (yl_load (fun _ h => h) hF rfl rfl 0 rfl ag3 rfl) ?_
              clear hF; intro a hF
              refine ha_yl 6 hF rfl rfl rfl (by kernel_rfl) (by kernel_rfl) (by kernel_rfl) (by decide) (fun _ _ _ h => h) (wn_none rfl) (.inr hSS) (yl_bin hF rfl rfl rfl rfl (fun _ => run_add (by refine ⟨?_, ?_⟩ <;> omega))) ?_
              clear hF; intro a hF
              refine ha_ld 11 hF rfl rfl rfl (by kernel_rfl) (by kernel_rfl) (by kernel_rfl) (by decide) (by kernel_rfl) (by kernel_rfl) (fun _ _ _ h => h) (wn_none rfl) hSS (yl_loadAt hF rfl rfl ag3 (fun _ h => rd_cell0 (enc := enc36) (Sat.rdRow h 1 rfl) enc36_len hx266 rfl rfl)) ?_
              clear hF; intro a hF
              refine ha_yl 12 hF rfl rfl rfl (by kernel_rfl) (by kernel_rfl) (by kernel_rfl) (by decide) (fun _ _ _ h => h) (wn_none rfl) (.inr hSS) (yl_bin hF rfl rfl rfl rfl (fun _ => run_leq)) ?_
              clear hF; intro a hF
              refine ha_yl 13 hF rfl rfl rfl (by kernel_rfl) (by kernel_rfl) (by kernel_rfl) (by decide) (fun _ _ _ h => h) (wn_none rfl) (.inr hSS) (yl_bin hF rfl rfl rfl rfl (fun _ => run_neb Try.underlying4)) ?_
              clear hF; intro a hF
              replace hF := fr_set (b' := false) hF (by have hq : (decide ((((c1) + (r252))) ≤ (x266.f0))) = false := decide_eq_false (by cases (Option.some.inj hx266 : E36.mk ((((1 : Int) + (r211)))) 0 c1 = x266); (try dsimp only); omega); rw [hq]; rfl)
              refine ha_done (by kernel_rfl) ?_ _
              refine then_n ?_
              refine c_cond_f hF rfl ?_
              refine wp_skip ?_
              refine then_n ?_
              refine c_seq ?_
              refine c_region ?_
              refine seq_yl hF (wn_none rfl) rfl rfl (yl_move hF rfl rfl) ?_
              clear hF; intro a hF
              refine seq_yl hF (wn_none rfl) rfl rfl (yl_bin hF rfl rfl rfl rfl (fun _ => run_eql)) ?_
              clear hF; intro a hF
              replace hF := fr_set (b' := false) hF (hdd)
              refine wpList_nil ?_
              refine then_n ?_
              refine c_cond_f hF rfl ?_
              refine wp_skip ?_
              refine then_n ?_
              refine c_seq ?_
              refine ha_startS hS [4, 3] 30 (by kernel_rfl) ?_; clear hS; intro w hS
              have hSS := hS.sub [4, 3] (by decide) rfl (by simp)
              refine ha_yl 0 hF rfl rfl rfl (by kernel_rfl) (by kernel_rfl) (by kernel_rfl) (by decide) (fun _ _ _ h => h) (wn_none rfl) (.inr hSS) (yl_move hF rfl rfl) ?_
              clear hF; intro a hF
              refine ha_yl 1 hF rfl rfl rfl (by kernel_rfl) (by kernel_rfl) (by kernel_rfl) (by decide) (fun _ _ _ h => h) (wn_none rfl) (.inr hSS) (yl_len hF rfl rfl (fun _ => run_lenRd sl26 (hS.rdRow 4 rfl))) ?_
              clear hF; intro a hF
              refine ha_yl 2 hF rfl rfl rfl (by kernel_rfl) (by kernel_rfl) (by kernel_rfl) (by decide) (fun _ _ _ h => h) (wn_none rfl) (.inr hSS) (yl_bin hF rfl rfl rfl rfl (fun _ => run_neq)) ?_
              clear hF; intro a hF
              replace hF := fr_set (b' := false) hF (by rw [decide_eq_false_iff_not]; exact fun h => h rfl)
              refine ha_yl 3 hF rfl rfl rfl (by kernel_rfl) (by kernel_rfl) (by kernel_rfl) (by decide) (fun _ _ _ h => h) (wn_none rfl) (.inr hSS) (yl_move hF rfl rfl) ?_
              clear hF; intro a hF
              refine ha_yl 4 hF rfl rfl rfl (by kernel_rfl) (by kernel_rfl) (by kernel_rfl) (by decide) (fun _ _ _ h => h) (wn_t hF rfl rfl rfl rfl) (.inr hSS) (yl_move hF rfl rfl) ?_
              clear hF; intro a hF
              have hlt_hx268 : 0 < ([E36.mk ((((1 : Int) + (r208)))) 0 c0, E36.mk ((((1 : Int) + (r211)))) 0 c1, E36.mk ((((1 : Int) + (r214)))) 0 c2]).length := by first | omega | (simp; done) | (simp; omega)
              obtain ⟨x268, hx268⟩ := get_some hlt_hx268
              refine ha_yl 5 hF rfl rfl rfl (by kernel_rfl) (by kernel_rfl) (by kernel_rfl) (by decide) (fun _ _ _ h => h) (wn_t hF rfl rfl rfl rfl) (.inr hSS) (yl_indexAddr hF rfl rfl rfl (fun _ => run_idx' (k := 0) sl26 sz36 (hS.rdRow 4 rfl) hlt_hx268)) ?_
              clear hF; intro a hF
              refine ha_yl 6 hF rfl rfl rfl (by kernel_rfl) (by kernel_rfl) (by kernel_rfl) (by decide) (fun _ _ _ h => h) (wn_t hF rfl rfl rfl rfl) (.inr hSS) (yl_fieldAddr hF rfl rfl (fun w => run_fa fo36_2)) ?_
              clear hF; intro a hF
              refine ha_yl 8 hF rfl rfl rfl (by kernel_rfl) (by kernel_rfl) (by kernel_rfl) (by decide) (fun _ _ _ h => h) (wn_t hF rfl rfl rfl rfl) (.inr hSS) (yl_indexAddr hF rfl rfl rfl (fun w => by kernel_rfl : ∀ w, (Instr.indexAt 44 (.pointer (some ⟨g218, 0, none⟩)) (.int .i64 0)).run Try.prog w = .ok (.pointer (some ⟨g218, 0, none⟩)) w)) ?_
              clear hF; intro a hF
              refine ha_ld 7 hF rfl rfl rfl (by kernel_rfl) (by kernel_rfl) (by kernel_rfl) (by decide) (by kernel_rfl) (by kernel_rfl) (fun _ _ _ h => h) (wn_t hF rfl rfl rfl rfl) hSS (yl_loadAt hF rfl rfl ag3 (fun _ h => rd_cell (j := 2) (enc := enc36) (Sat.rdRow h 0 rfl) enc36_len hx268 rfl rfl)) ?_
              clear hF; intro a hF
              refine ha_ld 9 hF rfl rfl rfl (by kernel_rfl) (by kernel_rfl) (by kernel_rfl) (by decide) (by kernel_rfl) (by kernel_rfl) (fun _ _ _ h => h) (wn_t hF rfl rfl rfl rfl) hSS (yl_load (fun _ h => h) hF rfl rfl 1 rfl ag3 rfl) ?_
              clear hF; intro a hF
              refine ha_yl 10 hF rfl rfl rfl (by kernel_rfl) (by kernel_rfl) (by kernel_rfl) (by decide) (fun _ _ _ h => h) (wn_t hF rfl rfl rfl rfl) (.inr hSS) (yl_bin hF rfl rfl rfl rfl (fun _ => run_neq)) ?_
              clear hF; intro a hF
              replace hF := fr_set (b' := false) hF (by have h9 := hx268; cases (Option.some.inj h9 : E36.mk ((((1 : Int) + (r208)))) 0 ((c0)) = x268); rw [decide_eq_false_iff_not]; exact fun h => h rfl)
              refine ha_yl 11 hF rfl rfl rfl (by kernel_rfl) (by kernel_rfl) (by kernel_rfl) (by decide) (fun _ _ _ h => h) (wn_none rfl) (.inr hSS) (yl_pick (u := _) (v := undef) hF rfl rfl (fun h => by cases h) (fun _ => rfl)) ?_
              clear hF; intro a hF
              refine ha_yl 12 hF rfl rfl rfl (by kernel_rfl) (by kernel_rfl) (by kernel_rfl) (by decide) (fun _ _ _ h => h) (wn_none rfl) (.inr hSS) (yl_move hF rfl rfl) ?_
              clear hF; intro a hF
              refine ha_yl 13 hF rfl rfl rfl (by kernel_rfl) (by kernel_rfl) (by kernel_rfl) (by decide) (fun _ _ _ h => h) (wn_t hF rfl rfl rfl rfl) (.inr hSS) (yl_move hF rfl rfl) ?_
              clear hF; intro a hF
              refine ha_yl 14 hF rfl rfl rfl (by kernel_rfl) (by kernel_rfl) (by kernel_rfl) (by decide) (fun _ _ _ h => h) (wn_t hF rfl rfl rfl rfl) (.inr hSS) (yl_indexAddr hF rfl rfl rfl (fun _ => run_idx' (k := 1) sl26 sz36 (hS.rdRow 4 rfl) hlt_hx266)) ?_
              clear hF; intro a hF
              refine ha_yl 15 hF rfl rfl rfl (by kernel_rfl) (by kernel_rfl) (by kernel_rfl) (by decide) (fun _ _ _ h => h) (wn_t hF rfl rfl rfl rfl) (.inr hSS) (yl_fieldAddr hF rfl rfl (fun w => run_fa fo36_2)) ?_
              clear hF; intro a hF
              refine ha_yl 17 hF rfl rfl rfl (by kernel_rfl) (by kernel_rfl) (by kernel_rfl) (by decide) (fun _ _ _ h => h) (wn_t hF rfl rfl rfl rfl) (.inr hSS) (yl_indexAddr hF rfl rfl rfl (fun w => by kernel_rfl : ∀ w, (Instr.indexAt 44 (.pointer (some ⟨g218, 0, none⟩)) (.int .i64 1)).run Try.prog w = .ok (.pointer (some ⟨g218, 1, none⟩)) w)) ?_
              clear hF; intro a hF
              refine ha_ld 16 hF rfl rfl rfl (by kernel_rfl) (by kernel_rfl) (by kernel_rfl) (by decide) (by kernel_rfl) (by kernel_rfl) (fun _ _ _ h => h) (wn_t hF rfl rfl rfl rfl) hSS (yl_loadAt hF rfl rfl ag3 (fun _ h => rd_cell (j := 2) (enc := enc36) (Sat.rdRow h 0 rfl) enc36_len hx266 rfl rfl)) ?_
              clear hF; intro a hF
              refine ha_ld 18 hF rfl rfl rfl (by kernel_rfl) (by kernel_rfl) (by kernel_rfl) (by decide) (by kernel_rfl) (by kernel_rfl) (fun _ _ _ h => h) (wn_t hF rfl rfl rfl rfl) hSS (yl_load (fun _ h => h) hF rfl rfl 1 rfl ag3 rfl) ?_
              clear hF; intro a hF
              refine ha_yl 19 hF rfl rfl rfl (by kernel_rfl) (by kernel_rfl) (by kernel_rfl) (by decide) (fun _ _ _ h => h) (wn_t hF rfl rfl rfl rfl) (.inr hSS) (yl_bin hF rfl rfl rfl rfl (fun _ => run_neq)) ?_
              clear hF; intro a hF
              replace hF := fr_set (b' := false) hF (by have h9 := hx266; cases (Option.some.inj h9 : E36.mk ((((1 : Int) + (r211)))) 0 ((c1)) = x266); rw [decide_eq_false_iff_not]; exact fun h => h rfl)
              refine ha_yl 20 hF rfl rfl rfl (by kernel_rfl) (by kernel_rfl) (by kernel_rfl) (by decide) (fun _ _ _ h => h) (wn_none rfl) (.inr hSS) (yl_pick (u := _) (v := undef) hF rfl rfl (fun h => by cases h) (fun _ => rfl)) ?_
              clear hF; intro a hF
              refine ha_yl 21 hF rfl rfl rfl (by kernel_rfl) (by kernel_rfl) (by kernel_rfl) (by decide) (fun _ _ _ h => h) (wn_none rfl) (.inr hSS) (yl_move hF rfl rfl) ?_
              clear hF; intro a hF
              refine ha_yl 22 hF rfl rfl rfl (by kernel_rfl) (by kernel_rfl) (by kernel_rfl) (by decide) (fun _ _ _ h => h) (wn_t hF rfl rfl rfl rfl) (.inr hSS) (yl_move hF rfl rfl) ?_
              clear hF; intro a hF
              have hlt_hx269 : 2 < ([E36.mk ((((1 : Int) + (r208)))) 0 c0, E36.mk ((((1 : Int) + (r211)))) 0 c1, E36.mk ((((1 : Int) + (r214)))) 0 c2]).length := by first | omega | (simp; done) | (simp; omega)
              obtain ⟨x269, hx269⟩ := get_some hlt_hx269
              refine ha_yl 23 hF rfl rfl rfl (by kernel_rfl) (by kernel_rfl) (by kernel_rfl) (by decide) (fun _ _ _ h => h) (wn_t hF rfl rfl rfl rfl) (.inr hSS) (yl_indexAddr hF rfl rfl rfl (fun _ => run_idx' (k := 2) sl26 sz36 (hS.rdRow 4 rfl) hlt_hx269)) ?_
              clear hF; intro a hF
              refine ha_yl 24 hF rfl rfl rfl (by kernel_rfl) (by kernel_rfl) (by kernel_rfl) (by decide) (fun _ _ _ h => h) (wn_t hF rfl rfl rfl rfl) (.inr hSS) (yl_fieldAddr hF rfl rfl (fun w => run_fa fo36_2)) ?_
              clear hF; intro a hF
              refine ha_yl 26 hF rfl rfl rfl (by kernel_rfl) (by kernel_rfl) (by kernel_rfl) (by decide) (fun _ _ _ h => h) (wn_t hF rfl rfl rfl rfl) (.inr hSS) (yl_indexAddr hF rfl rfl rfl (fun w => by kernel_rfl : ∀ w, (Instr.indexAt 44 (.pointer (some ⟨g218, 0, none⟩)) (.int .i64 2)).run Try.prog w = .ok (.pointer (some ⟨g218, 2, none⟩)) w)) ?_
              clear hF; intro a hF
              refine ha_ld 25 hF rfl rfl rfl (by kernel_rfl) (by kernel_rfl) (by kernel_rfl) (by decide) (by kernel_rfl) (by kernel_rfl) (fun _ _ _ h => h) (wn_t hF rfl rfl rfl rfl) hSS (yl_loadAt hF rfl rfl ag3 (fun _ h => rd_cell (j := 2) (enc := enc36) (Sat.rdRow h 0 rfl) enc36_len hx269 rfl rfl)) ?_
              clear hF; intro a hF
              refine ha_ld 27 hF rfl rfl rfl (by kernel_rfl) (by kernel_rfl) (by kernel_rfl) (by decide) (by kernel_rfl) (by kernel_rfl) (fun _ _ _ h => h) (wn_t hF rfl rfl rfl rfl) hSS (yl_load (fun _ h => h) hF rfl rfl 1 rfl ag3 rfl) ?_
              clear hF; intro a hF
              refine ha_yl 28 hF rfl rfl rfl (by kernel_rfl) (by kernel_rfl) (by kernel_rfl) (by decide) (fun _ _ _ h => h) (wn_t hF rfl rfl rfl rfl) (.inr hSS) (yl_bin hF rfl rfl rfl rfl (fun _ => run_neq)) ?_
              clear hF; intro a hF
              replace hF := fr_set (b' := false) hF (by have h9 := hx269; cases (Option.some.inj h9 : E36.mk ((((1 : Int) + (r214)))) 0 ((c2)) = x269); rw [decide_eq_false_iff_not]; exact fun h => h rfl)
              refine ha_yl 29 hF rfl rfl rfl (by kernel_rfl) (by kernel_rfl) (by kernel_rfl) (by decide) (fun _ _ _ h => h) (wn_none rfl) (.inr hSS) (yl_pick (u := _) (v := undef) hF rfl rfl (fun h => by cases h) (fun _ => rfl)) ?_
              clear hF; intro a hF
              refine ha_done (by kernel_rfl) ?_ _
              refine then_n ?_
              refine c_cond_f hF rfl ?_
              refine wp_skip ?_
              refine inb_n ?_
              refine then_n ?_
              refine c_region ?_
              refine seq_yl hF (wn_none rfl) rfl rfl (yl_move hF rfl rfl) ?_
              clear hF; intro a hF
              refine seq_yl hF (wn_none rfl) rfl rfl (yl_bin hF rfl rfl rfl rfl (fun _ => run_inc (by omega))) ?_
              clear hF; intro a hF
              refine seq_yl hF (wn_none rfl) rfl rfl (yl_assign hF rfl rfl) ?_
              clear hF; intro a hF
              refine wpList_nil ?_
              refine then_n ?_
              exact ⟨_, (by omega), n + 1, it256, (c0), (c1), (c2), (some ad267), cvG, rfl, ⟨by omega, by omega, by omega, by omega, by omega⟩, hF.to [3, 4, 5, 6] rfl, (hS.sub [1, 2, 3, 4] (by decide) (by first | rfl | simp) (by simp))⟩
          · first | (replace hc258 := of_decide_eq_false hc258) | (replace hc258 := of_decide_eq_true (bnot_f hc258)) | (subst hc258) | (replace hc258 := bnot_f hc258; subst hc258) | (replace hc258 := bnot_f hc258) | skip
            refine c_seq ?_
            refine c_region ?_
            refine seq_yl hF (wn_none rfl) rfl rfl (yl_move hF rfl rfl) ?_
            clear hF; intro a hF
            refine seq_yl hF (wn_none rfl) rfl rfl (yl_move hF rfl rfl) ?_
            clear hF; intro a hF
            refine seq_yl hF (wn_none rfl) rfl rfl (yl_move hF rfl rfl) ?_
            clear hF; intro a hF
            refine seq_wp (wn_none rfl) (wp_call (vs := [_, _, _]) hF rfl rfl rfl rfl cf13 (uncharge_any _ [E36.mk ((((1 : Int) + (r208)))) 0 c0, E36.mk ((((1 : Int) + (r211)))) 0 c1, E36.mk ((((1 : Int) + (r214)))) 0 c2] (1 : Int) (r252) _ (hS.rdRow 3 rfl) (by first | omega | (simp; done) | (simp; omega) | (rw [chF_len]; first | omega | (simp; done) | (simp; omega)) | (rw [unF_len]; first | omega | (simp; done) | (simp; omega)))) ?_)
            clear hF; rintro _ w ⟨v270, rfl, hS1⟩ a hF
            replace hS := hS.callB hS1 rfl; clear hS1
            obtain ⟨Av270, cv270, rfl⟩ := hS.form 0 rfl
            refine seq_yl hF (wn_none rfl) rfl rfl (yl_move hF rfl rfl) ?_
            clear hF; intro a hF
            refine seq_yl hF (wn_none rfl) rfl rfl (yl_extract hF rfl rfl rfl) ?_
            clear hF; intro a hF
            refine seq_yl hF (wn_none rfl) rfl rfl (yl_extract hF rfl rfl rfl) ?_
            clear hF; intro a hF
            refine seq_yl hF (wn_none rfl) rfl rfl (yl_assign hF rfl rfl) ?_
            clear hF; intro a hF
            refine seq_yl hF (wn_none rfl) rfl rfl (yl_assign hF rfl rfl) ?_
            clear hF; intro a hF
            refine wpList_nil ?_
            refine then_n ?_
            refine c_seq ?_
            refine c_seq ?_
            refine c_region ?_
            refine seq_yl hF (wn_none rfl) rfl rfl (yl_move hF rfl rfl) ?_
            clear hF; intro a hF
            refine seq_yl hF (wn_none rfl) rfl rfl (yl_bin hF rfl rfl rfl rfl (fun _ => run_eql)) ?_
            clear hF; intro a hF
            rcases acc_un (G := [E36.mk ((((1 : Int) + (r208)))) 0 c0, E36.mk ((((1 : Int) + (r211)))) 0 c1, E36.mk ((((1 : Int) + (r214)))) 0 c2]) 1 (1 : Int) rfl (k := (r252)) (x := E36.mk ((((1 : Int) + (r211)))) 0 c1) hchk rfl (by omega) with ⟨hdd, hle, hch⟩ | ⟨hdd, hle, hch⟩ <;> dsimp only at hle
            · skip
              replace hF := fr_set (b' := true) hF (by assumption)
              refine seq_yl hF (wn_none rfl) rfl rfl (yl_move hF rfl rfl) ?_
              clear hF; intro a hF
              refine seq_yl hF (wn_none rfl) rfl rfl (yl_move hF rfl rfl) ?_
              clear hF; intro a hF
              refine seq_yl hF (wn_none rfl) rfl rfl (yl_indexAddr hF rfl rfl rfl (fun w => by kernel_rfl : ∀ w, (Instr.indexAt 44 (.pointer (some ⟨g218, 0, none⟩)) (.int .i64 1)).run Try.prog w = .ok (.pointer (some ⟨g218, 1, none⟩)) w)) ?_
              clear hF; intro a hF
              refine seq_yl hF (wn_none rfl) rfl rfl (yl_load (fun _ h => h ▸ hS) hF rfl rfl 3 rfl ag3 rfl) ?_
              clear hF; intro a hF
              refine seq_yl hF (wn_none rfl) rfl rfl (yl_bin hF rfl rfl rfl rfl (fun _ => run_leq)) ?_
              clear hF; intro a hF
              refine seq_yl hF (wn_none rfl) rfl rfl (yl_bin hF rfl rfl rfl rfl (fun _ => run_neb Try.underlying4)) ?_
              clear hF; intro a hF
              replace hF := fr_set (b' := false) hF (by have hq : (decide ((r252) ≤ (c1))) = true := decide_eq_true (by (try dsimp only); omega); rw [hq]; rfl)
              refine wpList_nil ?_
              refine then_n ?_
              refine c_cond_f hF rfl ?_
              refine wp_skip ?_
              refine then_n ?_
              refine c_seq ?_
              refine c_region ?_
              refine seq_yl hF (wn_none rfl) rfl rfl (yl_move hF rfl rfl) ?_
              clear hF; intro a hF
              refine seq_yl hF (wn_none rfl) rfl rfl (yl_bin hF rfl rfl rfl rfl (fun _ => run_eql)) ?_
              clear hF; intro a hF
              replace hF := fr_set (b' := true) hF (hdd)
              refine wpList_nil ?_
              refine then_n ?_
              refine c_cond_t hF rfl ?_
              refine c_seq ?_
              refine c_region ?_
              refine seq_yl hF (wn_none rfl) rfl rfl (yl_move hF rfl rfl) ?_
              clear hF; intro a hF
              refine seq_yl hF (wn_none rfl) rfl rfl (yl_assign hF rfl rfl) ?_
              clear hF; intro a hF
              refine wpList_nil ?_
              refine then_n ?_
              refine c_region ?_
              refine seq_yl hF (wn_none rfl) rfl rfl (yl_move hF rfl rfl) ?_
              clear hF; intro a hF
              refine seq_yl hF (wn_none rfl) rfl rfl (yl_indexAddr hF rfl rfl rfl (fun w => by kernel_rfl : ∀ w, (Instr.indexAt 44 (.pointer (some ⟨g218, 0, none⟩)) (.int .i64 1)).run Try.prog w = .ok (.pointer (some ⟨g218, 1, none⟩)) w)) ?_
              clear hF; intro a hF
              refine seq_yl hF (wn_none rfl) rfl rfl (yl_load (fun _ h => h ▸ hS) hF rfl rfl 3 rfl ag3 rfl) ?_
              clear hF; intro a hF
              refine seq_yl hF (wn_none rfl) rfl rfl (yl_move hF rfl rfl) ?_
              clear hF; intro a hF
              refine seq_yl hF (wn_none rfl) rfl rfl (yl_bin hF rfl rfl rfl rfl (fun _ => run_sub (by refine ⟨?_, ?_⟩ <;> omega))) ?_
              clear hF; intro a hF
              refine seq_yl hF (wn_none rfl) rfl rfl (yl_indexAddr hF rfl rfl rfl (fun w => by kernel_rfl : ∀ w, (Instr.indexAt 44 (.pointer (some ⟨g218, 0, none⟩)) (.int .i64 1)).run Try.prog w = .ok (.pointer (some ⟨g218, 1, none⟩)) w)) ?_
              clear hF; intro a hF
              refine seq_wp (wn_none rfl) (wp_store (cs' := #[_, _, _]) hF hS rfl rfl rfl rfl 3 rfl sz3 (by simp [Value.cells, Value.oneCell']) (by simp [Value.cells]) rfl ?_)
              clear hF hS; intro a w hF hS
              refine wpList_nil ?_
              refine then_n ?_
              refine c_seq ?_
              refine ha_startS hS [0, 3] 30 (by kernel_rfl) ?_; clear hS; intro w hS
              have hSS := hS.sub [0, 3] (by decide) rfl (by simp)
              refine ha_yl 0 hF rfl rfl rfl (by kernel_rfl) (by kernel_rfl) (by kernel_rfl) (by decide) (fun _ _ _ h => h) (wn_none rfl) (.inr hSS) (yl_move hF rfl rfl) ?_
              clear hF; intro a hF
              refine ha_yl 1 hF rfl rfl rfl (by kernel_rfl) (by kernel_rfl) (by kernel_rfl) (by decide) (fun _ _ _ h => h) (wn_none rfl) (.inr hSS) (yl_len hF rfl rfl (fun _ => run_lenRd sl26 (hS.rdRow 0 rfl))) ?_
              clear hF; intro a hF
              refine ha_yl 2 hF rfl rfl rfl (by kernel_rfl) (by kernel_rfl) (by kernel_rfl) (by decide) (fun _ _ _ h => h) (wn_none rfl) (.inr hSS) (yl_bin hF rfl rfl rfl rfl (fun _ => run_neq)) ?_
              clear hF; intro a hF
              replace hF := fr_set (b' := false) hF (by rw [decide_eq_false_iff_not]; rw [hch]; exact fun h => h rfl)
              refine ha_yl 3 hF rfl rfl rfl (by kernel_rfl) (by kernel_rfl) (by kernel_rfl) (by decide) (fun _ _ _ h => h) (wn_none rfl) (.inr hSS) (yl_move hF rfl rfl) ?_
              clear hF; intro a hF
              refine ha_yl 4 hF rfl rfl rfl (by kernel_rfl) (by kernel_rfl) (by kernel_rfl) (by decide) (fun _ _ _ h => h) (wn_t hF rfl rfl rfl rfl) (.inr hSS) (yl_move hF rfl rfl) ?_
              clear hF; intro a hF
              have hlt_hx271 : 0 < ((unF [E36.mk ((((1 : Int) + (r208)))) 0 c0, E36.mk ((((1 : Int) + (r211)))) 0 c1, E36.mk ((((1 : Int) + (r214)))) 0 c2] (1 : Int) (r252)).1).length := by first | omega | (rw [chF_len]; simp; done) | (rw [unF_len]; simp; done) | (rw [chF_len, unF_len]; omega) | (rw [chF_len]; omega) | (rw [unF_len]; omega) | decide +kernel | (simp; omega)
              obtain ⟨ad272, rfl⟩ := rd_some (hS.rdRow 0 rfl) hlt_hx271
              obtain ⟨x271, hx271⟩ := get_some hlt_hx271
              refine ha_yl 5 hF rfl rfl rfl (by kernel_rfl) (by kernel_rfl) (by kernel_rfl) (by decide) (fun _ _ _ h => h) (wn_t hF rfl rfl rfl rfl) (.inr hSS) (yl_indexAddr hF rfl rfl rfl (fun _ => run_idx' (k := 0) sl26 sz36 (hS.rdRow 0 rfl) hlt_hx271)) ?_
              clear hF; intro a hF
              refine ha_yl 6 hF rfl rfl rfl (by kernel_rfl) (by kernel_rfl) (by kernel_rfl) (by decide) (fun _ _ _ h => h) (wn_t hF rfl rfl rfl rfl) (.inr hSS) (yl_fieldAddr hF rfl rfl (fun w => run_fa fo36_2)) ?_
              clear hF; intro a hF
              refine ha_yl 8 hF rfl rfl rfl (by kernel_rfl) (by kernel_rfl) (by kernel_rfl) (by decide) (fun _ _ _ h => h) (wn_t hF rfl rfl rfl rfl) (.inr hSS) (yl_indexAddr hF rfl rfl rfl (fun w => by kernel_rfl : ∀ w, (Instr.indexAt 44 (.pointer (some ⟨g218, 0, none⟩)) (.int .i64 0)).run Try.prog w = .ok (.pointer (some ⟨g218, 0, none⟩)) w)) ?_
              clear hF; intro a hF
              refine ha_ld 7 hF rfl rfl rfl (by kernel_rfl) (by kernel_rfl) (by kernel_rfl) (by decide) (by kernel_rfl) (by kernel_rfl) (fun _ _ _ h => h) (wn_t hF rfl rfl rfl rfl) hSS (yl_loadAt hF rfl rfl ag3 (fun _ h => rd_cell (j := 2) (enc := enc36) (Sat.rdRow h 0 rfl) enc36_len hx271 rfl rfl)) ?_
              clear hF; intro a hF
              refine ha_ld 9 hF rfl rfl rfl (by kernel_rfl) (by kernel_rfl) (by kernel_rfl) (by decide) (by kernel_rfl) (by kernel_rfl) (fun _ _ _ h => h) (wn_t hF rfl rfl rfl rfl) hSS (yl_load (fun _ h => h) hF rfl rfl 1 rfl ag3 rfl) ?_
              clear hF; intro a hF
              refine ha_yl 10 hF rfl rfl rfl (by kernel_rfl) (by kernel_rfl) (by kernel_rfl) (by decide) (fun _ _ _ h => h) (wn_t hF rfl rfl rfl rfl) (.inr hSS) (yl_bin hF rfl rfl rfl rfl (fun _ => run_neq)) ?_
              clear hF; intro a hF
              replace hF := fr_set (b' := false) hF (by have h9 := hx271; rw [hch] at h9; cases (Option.some.inj h9 : E36.mk ((((1 : Int) + (r208)))) 0 ((c0)) = x271); rw [decide_eq_false_iff_not]; exact fun h => h rfl)
              refine ha_yl 11 hF rfl rfl rfl (by kernel_rfl) (by kernel_rfl) (by kernel_rfl) (by decide) (fun _ _ _ h => h) (wn_none rfl) (.inr hSS) (yl_pick (u := _) (v := undef) hF rfl rfl (fun h => by cases h) (fun _ => rfl)) ?_
              clear hF; intro a hF
              refine ha_yl 12 hF rfl rfl rfl (by kernel_rfl) (by kernel_rfl) (by kernel_rfl) (by decide) (fun _ _ _ h => h) (wn_none rfl) (.inr hSS) (yl_move hF rfl rfl) ?_
              clear hF; intro a hF
              refine ha_yl 13 hF rfl rfl rfl (by kernel_rfl) (by kernel_rfl) (by kernel_rfl) (by decide) (fun _ _ _ h => h) (wn_t hF rfl rfl rfl rfl) (.inr hSS) (yl_move hF rfl rfl) ?_
              clear hF; intro a hF
              have hlt_hx273 : 1 < ((unF [E36.mk ((((1 : Int) + (r208)))) 0 c0, E36.mk ((((1 : Int) + (r211)))) 0 c1, E36.mk ((((1 : Int) + (r214)))) 0 c2] (1 : Int) (r252)).1).length := by first | omega | (rw [chF_len]; simp; done) | (rw [unF_len]; simp; done) | (rw [chF_len, unF_len]; omega) | (rw [chF_len]; omega) | (rw [unF_len]; omega) | decide +kernel | (simp; omega)
              obtain ⟨x273, hx273⟩ := get_some hlt_hx273
              refine ha_yl 14 hF rfl rfl rfl (by kernel_rfl) (by kernel_rfl) (by kernel_rfl) (by decide) (fun _ _ _ h => h) (wn_t hF rfl rfl rfl rfl) (.inr hSS) (yl_indexAddr hF rfl rfl rfl (fun _ => run_idx' (k := 1) sl26 sz36 (hS.rdRow 0 rfl) hlt_hx273)) ?_
              clear hF; intro a hF
              refine ha_yl 15 hF rfl rfl rfl (by kernel_rfl) (by kernel_rfl) (by kernel_rfl) (by decide) (fun _ _ _ h => h) (wn_t hF rfl rfl rfl rfl) (.inr hSS) (yl_fieldAddr hF rfl rfl (fun w => run_fa fo36_2)) ?_
              clear hF; intro a hF
              refine ha_yl 17 hF rfl rfl rfl (by kernel_rfl) (by kernel_rfl) (by kernel_rfl) (by decide) (fun _ _ _ h => h) (wn_t hF rfl rfl rfl rfl) (.inr hSS) (yl_indexAddr hF rfl rfl rfl (fun w => by kernel_rfl : ∀ w, (Instr.indexAt 44 (.pointer (some ⟨g218, 0, none⟩)) (.int .i64 1)).run Try.prog w = .ok (.pointer (some ⟨g218, 1, none⟩)) w)) ?_
              clear hF; intro a hF
              refine ha_ld 16 hF rfl rfl rfl (by kernel_rfl) (by kernel_rfl) (by kernel_rfl) (by decide) (by kernel_rfl) (by kernel_rfl) (fun _ _ _ h => h) (wn_t hF rfl rfl rfl rfl) hSS (yl_loadAt hF rfl rfl ag3 (fun _ h => rd_cell (j := 2) (enc := enc36) (Sat.rdRow h 0 rfl) enc36_len hx273 rfl rfl)) ?_
              clear hF; intro a hF
              refine ha_ld 18 hF rfl rfl rfl (by kernel_rfl) (by kernel_rfl) (by kernel_rfl) (by decide) (by kernel_rfl) (by kernel_rfl) (fun _ _ _ h => h) (wn_t hF rfl rfl rfl rfl) hSS (yl_load (fun _ h => h) hF rfl rfl 1 rfl ag3 rfl) ?_
              clear hF; intro a hF
              refine ha_yl 19 hF rfl rfl rfl (by kernel_rfl) (by kernel_rfl) (by kernel_rfl) (by decide) (fun _ _ _ h => h) (wn_t hF rfl rfl rfl rfl) (.inr hSS) (yl_bin hF rfl rfl rfl rfl (fun _ => run_neq)) ?_
              clear hF; intro a hF
              replace hF := fr_set (b' := false) hF (by have h9 := hx273; rw [hch] at h9; cases (Option.some.inj h9 : E36.mk ((((1 : Int) + (r211)))) 0 ((((c1) - (r252)))) = x273); rw [decide_eq_false_iff_not]; exact fun h => h rfl)
              refine ha_yl 20 hF rfl rfl rfl (by kernel_rfl) (by kernel_rfl) (by kernel_rfl) (by decide) (fun _ _ _ h => h) (wn_none rfl) (.inr hSS) (yl_pick (u := _) (v := undef) hF rfl rfl (fun h => by cases h) (fun _ => rfl)) ?_
              clear hF; intro a hF
              refine ha_yl 21 hF rfl rfl rfl (by kernel_rfl) (by kernel_rfl) (by kernel_rfl) (by decide) (fun _ _ _ h => h) (wn_none rfl) (.inr hSS) (yl_move hF rfl rfl) ?_
              clear hF; intro a hF
              refine ha_yl 22 hF rfl rfl rfl (by kernel_rfl) (by kernel_rfl) (by kernel_rfl) (by decide) (fun _ _ _ h => h) (wn_t hF rfl rfl rfl rfl) (.inr hSS) (yl_move hF rfl rfl) ?_
              clear hF; intro a hF
              have hlt_hx274 : 2 < ((unF [E36.mk ((((1 : Int) + (r208)))) 0 c0, E36.mk ((((1 : Int) + (r211)))) 0 c1, E36.mk ((((1 : Int) + (r214)))) 0 c2] (1 : Int) (r252)).1).length := by first | omega | (rw [chF_len]; simp; done) | (rw [unF_len]; simp; done) | (rw [chF_len, unF_len]; omega) | (rw [chF_len]; omega) | (rw [unF_len]; omega) | decide +kernel | (simp; omega)
              obtain ⟨x274, hx274⟩ := get_some hlt_hx274
              refine ha_yl 23 hF rfl rfl rfl (by kernel_rfl) (by kernel_rfl) (by kernel_rfl) (by decide) (fun _ _ _ h => h) (wn_t hF rfl rfl rfl rfl) (.inr hSS) (yl_indexAddr hF rfl rfl rfl (fun _ => run_idx' (k := 2) sl26 sz36 (hS.rdRow 0 rfl) hlt_hx274)) ?_
              clear hF; intro a hF
              refine ha_yl 24 hF rfl rfl rfl (by kernel_rfl) (by kernel_rfl) (by kernel_rfl) (by decide) (fun _ _ _ h => h) (wn_t hF rfl rfl rfl rfl) (.inr hSS) (yl_fieldAddr hF rfl rfl (fun w => run_fa fo36_2)) ?_
              clear hF; intro a hF
              refine ha_yl 26 hF rfl rfl rfl (by kernel_rfl) (by kernel_rfl) (by kernel_rfl) (by decide) (fun _ _ _ h => h) (wn_t hF rfl rfl rfl rfl) (.inr hSS) (yl_indexAddr hF rfl rfl rfl (fun w => by kernel_rfl : ∀ w, (Instr.indexAt 44 (.pointer (some ⟨g218, 0, none⟩)) (.int .i64 2)).run Try.prog w = .ok (.pointer (some ⟨g218, 2, none⟩)) w)) ?_
              clear hF; intro a hF
              refine ha_ld 25 hF rfl rfl rfl (by kernel_rfl) (by kernel_rfl) (by kernel_rfl) (by decide) (by kernel_rfl) (by kernel_rfl) (fun _ _ _ h => h) (wn_t hF rfl rfl rfl rfl) hSS (yl_loadAt hF rfl rfl ag3 (fun _ h => rd_cell (j := 2) (enc := enc36) (Sat.rdRow h 0 rfl) enc36_len hx274 rfl rfl)) ?_
              clear hF; intro a hF
              refine ha_ld 27 hF rfl rfl rfl (by kernel_rfl) (by kernel_rfl) (by kernel_rfl) (by decide) (by kernel_rfl) (by kernel_rfl) (fun _ _ _ h => h) (wn_t hF rfl rfl rfl rfl) hSS (yl_load (fun _ h => h) hF rfl rfl 1 rfl ag3 rfl) ?_
              clear hF; intro a hF
              refine ha_yl 28 hF rfl rfl rfl (by kernel_rfl) (by kernel_rfl) (by kernel_rfl) (by decide) (fun _ _ _ h => h) (wn_t hF rfl rfl rfl rfl) (.inr hSS) (yl_bin hF rfl rfl rfl rfl (fun _ => run_neq)) ?_
              clear hF; intro a hF
              replace hF := fr_set (b' := false) hF (by have h9 := hx274; rw [hch] at h9; cases (Option.some.inj h9 : E36.mk ((((1 : Int) + (r214)))) 0 ((c2)) = x274); rw [decide_eq_false_iff_not]; exact fun h => h rfl)
              refine ha_yl 29 hF rfl rfl rfl (by kernel_rfl) (by kernel_rfl) (by kernel_rfl) (by decide) (fun _ _ _ h => h) (wn_none rfl) (.inr hSS) (yl_pick (u := _) (v := undef) hF rfl rfl (fun h => by cases h) (fun _ => rfl)) ?_
              clear hF; intro a hF
              refine ha_done (by kernel_rfl) ?_ _
              refine then_n ?_
              refine c_cond_f hF rfl ?_
              refine wp_skip ?_
              refine inb_n ?_
              refine then_n ?_
              refine c_region ?_
              refine seq_yl hF (wn_none rfl) rfl rfl (yl_move hF rfl rfl) ?_
              clear hF; intro a hF
              refine seq_yl hF (wn_none rfl) rfl rfl (yl_bin hF rfl rfl rfl rfl (fun _ => run_inc (by omega))) ?_
              clear hF; intro a hF
              refine seq_yl hF (wn_none rfl) rfl rfl (yl_assign hF rfl rfl) ?_
              clear hF; intro a hF
              refine wpList_nil ?_
              refine then_n ?_
              rw [hch] at hS hF
              exact ⟨_, (by omega), n + 1, it256, (c0), (((c1) - (r252))), (c2), (some ad272), cv270, rfl, ⟨by omega, by omega, by omega, by omega, by omega⟩, hF.to [3, 4, 5, 6] rfl, (hS.sub [1, 2, 3, 0] (by decide) (by first | rfl | simp) (by simp))⟩
            · skip
              replace hF := fr_set (b' := false) hF (by assumption)
              refine seq_yl hF (wn_none rfl) rfl rfl (yl_move hF rfl rfl) ?_
              clear hF; intro a hF
              refine seq_yl hF (wn_none rfl) rfl rfl (yl_move hF rfl rfl) ?_
              clear hF; intro a hF
              refine seq_yl hF (wn_none rfl) rfl rfl (yl_indexAddr hF rfl rfl rfl (fun w => by kernel_rfl : ∀ w, (Instr.indexAt 44 (.pointer (some ⟨g218, 0, none⟩)) (.int .i64 1)).run Try.prog w = .ok (.pointer (some ⟨g218, 1, none⟩)) w)) ?_
              clear hF; intro a hF
              refine seq_yl hF (wn_none rfl) rfl rfl (yl_load (fun _ h => h ▸ hS) hF rfl rfl 3 rfl ag3 rfl) ?_
              clear hF; intro a hF
              refine seq_yl hF (wn_none rfl) rfl rfl (yl_bin hF rfl rfl rfl rfl (fun _ => run_leq)) ?_
              clear hF; intro a hF
              refine seq_yl hF (wn_none rfl) rfl rfl (yl_bin hF rfl rfl rfl rfl (fun _ => run_neb Try.underlying4)) ?_
              clear hF; intro a hF
              replace hF := fr_set (b' := false) hF (by have hq : (decide ((r252) ≤ (c1))) = false := decide_eq_false (by (try dsimp only); omega); rw [hq]; rfl)
              refine wpList_nil ?_
              refine then_n ?_
              refine c_cond_f hF rfl ?_
              refine wp_skip ?_
              refine then_n ?_
              refine c_seq ?_
              refine c_region ?_
              refine seq_yl hF (wn_none rfl) rfl rfl (yl_move hF rfl rfl) ?_
              clear hF; intro a hF
              refine seq_yl hF (wn_none rfl) rfl rfl (yl_bin hF rfl rfl rfl rfl (fun _ => run_eql)) ?_
              clear hF; intro a hF
              replace hF := fr_set (b' := false) hF (hdd)
              refine wpList_nil ?_
              refine then_n ?_
              refine c_cond_f hF rfl ?_
              refine wp_skip ?_
              refine then_n ?_
              refine c_seq ?_
              refine ha_startS hS [4, 3] 30 (by kernel_rfl) ?_; clear hS; intro w hS
              have hSS := hS.sub [4, 3] (by decide) rfl (by simp)
              refine ha_yl 0 hF rfl rfl rfl (by kernel_rfl) (by kernel_rfl) (by kernel_rfl) (by decide) (fun _ _ _ h => h) (wn_none rfl) (.inr hSS) (yl_move hF rfl rfl) ?_
              clear hF; intro a hF
              refine ha_yl 1 hF rfl rfl rfl (by kernel_rfl) (by kernel_rfl) (by kernel_rfl) (by decide) (fun _ _ _ h => h) (wn_none rfl) (.inr hSS) (yl_len hF rfl rfl (fun _ => run_lenRd sl26 (hS.rdRow 4 rfl))) ?_
              clear hF; intro a hF
              refine ha_yl 2 hF rfl rfl rfl (by kernel_rfl) (by kernel_rfl) (by kernel_rfl) (by decide) (fun _ _ _ h => h) (wn_none rfl) (.inr hSS) (yl_bin hF rfl rfl rfl rfl (fun _ => run_neq)) ?_
              clear hF; intro a hF
              replace hF := fr_set (b' := false) hF (by rw [decide_eq_false_iff_not]; exact fun h => h rfl)
              refine ha_yl 3 hF rfl rfl rfl (by kernel_rfl) (by kernel_rfl) (by kernel_rfl) (by decide) (fun _ _ _ h => h) (wn_none rfl) (.inr hSS) (yl_move hF rfl rfl) ?_
              clear hF; intro a hF
              refine ha_yl 4 hF rfl rfl rfl (by kernel_rfl) (by kernel_rfl) (by kernel_rfl) (by decide) (fun _ _ _ h => h) (wn_t hF rfl rfl rfl rfl) (.inr hSS) (yl_move hF rfl rfl) ?_
              clear hF; intro a hF
              have hlt_hx275 : 0 < ([E36.mk ((((1 : Int) + (r208)))) 0 c0, E36.mk ((((1 : Int) + (r211)))) 0 c1, E36.mk ((((1 : Int) + (r214)))) 0 c2]).length := by first | omega | (simp; done) | (simp; omega)
              obtain ⟨ad276, rfl⟩ := rd_some (hS.rdRow 4 rfl) hlt_hx275
              obtain ⟨x275, hx275⟩ := get_some hlt_hx275
              refine ha_yl 5 hF rfl rfl rfl (by kernel_rfl) (by kernel_rfl) (by kernel_rfl) (by decide) (fun _ _ _ h => h) (wn_t hF rfl rfl rfl rfl) (.inr hSS) (yl_indexAddr hF rfl rfl rfl (fun _ => run_idx' (k := 0) sl26 sz36 (hS.rdRow 4 rfl) hlt_hx275)) ?_
              clear hF; intro a hF
              refine ha_yl 6 hF rfl rfl rfl (by kernel_rfl) (by kernel_rfl) (by kernel_rfl) (by decide) (fun _ _ _ h => h) (wn_t hF rfl rfl rfl rfl) (.inr hSS) (yl_fieldAddr hF rfl rfl (fun w => run_fa fo36_2)) ?_
              clear hF; intro a hF
              refine ha_yl 8 hF rfl rfl rfl (by kernel_rfl) (by kernel_rfl) (by kernel_rfl) (by decide) (fun _ _ _ h => h) (wn_t hF rfl rfl rfl rfl) (.inr hSS) (yl_indexAddr hF rfl rfl rfl (fun w => by kernel_rfl : ∀ w, (Instr.indexAt 44 (.pointer (some ⟨g218, 0, none⟩)) (.int .i64 0)).run Try.prog w = .ok (.pointer (some ⟨g218, 0, none⟩)) w)) ?_
              clear hF; intro a hF
              refine ha_ld 7 hF rfl rfl rfl (by kernel_rfl) (by kernel_rfl) (by kernel_rfl) (by decide) (by kernel_rfl) (by kernel_rfl) (fun _ _ _ h => h) (wn_t hF rfl rfl rfl rfl) hSS (yl_loadAt hF rfl rfl ag3 (fun _ h => rd_cell (j := 2) (enc := enc36) (Sat.rdRow h 0 rfl) enc36_len hx275 rfl rfl)) ?_
              clear hF; intro a hF
              refine ha_ld 9 hF rfl rfl rfl (by kernel_rfl) (by kernel_rfl) (by kernel_rfl) (by decide) (by kernel_rfl) (by kernel_rfl) (fun _ _ _ h => h) (wn_t hF rfl rfl rfl rfl) hSS (yl_load (fun _ h => h) hF rfl rfl 1 rfl ag3 rfl) ?_
              clear hF; intro a hF
              refine ha_yl 10 hF rfl rfl rfl (by kernel_rfl) (by kernel_rfl) (by kernel_rfl) (by decide) (fun _ _ _ h => h) (wn_t hF rfl rfl rfl rfl) (.inr hSS) (yl_bin hF rfl rfl rfl rfl (fun _ => run_neq)) ?_
              clear hF; intro a hF
              replace hF := fr_set (b' := false) hF (by have h9 := hx275; cases (Option.some.inj h9 : E36.mk ((((1 : Int) + (r208)))) 0 ((c0)) = x275); rw [decide_eq_false_iff_not]; exact fun h => h rfl)
              refine ha_yl 11 hF rfl rfl rfl (by kernel_rfl) (by kernel_rfl) (by kernel_rfl) (by decide) (fun _ _ _ h => h) (wn_none rfl) (.inr hSS) (yl_pick (u := _) (v := undef) hF rfl rfl (fun h => by cases h) (fun _ => rfl)) ?_
              clear hF; intro a hF
              refine ha_yl 12 hF rfl rfl rfl (by kernel_rfl) (by kernel_rfl) (by kernel_rfl) (by decide) (fun _ _ _ h => h) (wn_none rfl) (.inr hSS) (yl_move hF rfl rfl) ?_
              clear hF; intro a hF
              refine ha_yl 13 hF rfl rfl rfl (by kernel_rfl) (by kernel_rfl) (by kernel_rfl) (by decide) (fun _ _ _ h => h) (wn_t hF rfl rfl rfl rfl) (.inr hSS) (yl_move hF rfl rfl) ?_
              clear hF; intro a hF
              have hlt_hx277 : 1 < ([E36.mk ((((1 : Int) + (r208)))) 0 c0, E36.mk ((((1 : Int) + (r211)))) 0 c1, E36.mk ((((1 : Int) + (r214)))) 0 c2]).length := by first | omega | (simp; done) | (simp; omega)
              obtain ⟨x277, hx277⟩ := get_some hlt_hx277
              refine ha_yl 14 hF rfl rfl rfl (by kernel_rfl) (by kernel_rfl) (by kernel_rfl) (by decide) (fun _ _ _ h => h) (wn_t hF rfl rfl rfl rfl) (.inr hSS) (yl_indexAddr hF rfl rfl rfl (fun _ => run_idx' (k := 1) sl26 sz36 (hS.rdRow 4 rfl) hlt_hx277)) ?_
              clear hF; intro a hF
              refine ha_yl 15 hF rfl rfl rfl (by kernel_rfl) (by kernel_rfl) (by kernel_rfl) (by decide) (fun _ _ _ h => h) (wn_t hF rfl rfl rfl rfl) (.inr hSS) (yl_fieldAddr hF rfl rfl (fun w => run_fa fo36_2)) ?_
              clear hF; intro a hF
              refine ha_yl 17 hF rfl rfl rfl (by kernel_rfl) (by kernel_rfl) (by kernel_rfl) (by decide) (fun _ _ _ h => h) (wn_t hF rfl rfl rfl rfl) (.inr hSS) (yl_indexAddr hF rfl rfl rfl (fun w => by kernel_rfl : ∀ w, (Instr.indexAt 44 (.pointer (some ⟨g218, 0, none⟩)) (.int .i64 1)).run Try.prog w = .ok (.pointer (some ⟨g218, 1, none⟩)) w)) ?_
              clear hF; intro a hF
              refine ha_ld 16 hF rfl rfl rfl (by kernel_rfl) (by kernel_rfl) (by kernel_rfl) (by decide) (by kernel_rfl) (by kernel_rfl) (fun _ _ _ h => h) (wn_t hF rfl rfl rfl rfl) hSS (yl_loadAt hF rfl rfl ag3 (fun _ h => rd_cell (j := 2) (enc := enc36) (Sat.rdRow h 0 rfl) enc36_len hx277 rfl rfl)) ?_
              clear hF; intro a hF
              refine ha_ld 18 hF rfl rfl rfl (by kernel_rfl) (by kernel_rfl) (by kernel_rfl) (by decide) (by kernel_rfl) (by kernel_rfl) (fun _ _ _ h => h) (wn_t hF rfl rfl rfl rfl) hSS (yl_load (fun _ h => h) hF rfl rfl 1 rfl ag3 rfl) ?_
              clear hF; intro a hF
              refine ha_yl 19 hF rfl rfl rfl (by kernel_rfl) (by kernel_rfl) (by kernel_rfl) (by decide) (fun _ _ _ h => h) (wn_t hF rfl rfl rfl rfl) (.inr hSS) (yl_bin hF rfl rfl rfl rfl (fun _ => run_neq)) ?_
              clear hF; intro a hF
              replace hF := fr_set (b' := false) hF (by have h9 := hx277; cases (Option.some.inj h9 : E36.mk ((((1 : Int) + (r211)))) 0 ((c1)) = x277); rw [decide_eq_false_iff_not]; exact fun h => h rfl)
              refine ha_yl 20 hF rfl rfl rfl (by kernel_rfl) (by kernel_rfl) (by kernel_rfl) (by decide) (fun _ _ _ h => h) (wn_none rfl) (.inr hSS) (yl_pick (u := _) (v := undef) hF rfl rfl (fun h => by cases h) (fun _ => rfl)) ?_
              clear hF; intro a hF
              refine ha_yl 21 hF rfl rfl rfl (by kernel_rfl) (by kernel_rfl) (by kernel_rfl) (by decide) (fun _ _ _ h => h) (wn_none rfl) (.inr hSS) (yl_move hF rfl rfl) ?_
              clear hF; intro a hF
              refine ha_yl 22 hF rfl rfl rfl (by kernel_rfl) (by kernel_rfl) (by kernel_rfl) (by decide) (fun _ _ _ h => h) (wn_t hF rfl rfl rfl rfl) (.inr hSS) (yl_move hF rfl rfl) ?_
              clear hF; intro a hF
              have hlt_hx278 : 2 < ([E36.mk ((((1 : Int) + (r208)))) 0 c0, E36.mk ((((1 : Int) + (r211)))) 0 c1, E36.mk ((((1 : Int) + (r214)))) 0 c2]).length := by first | omega | (simp; done) | (simp; omega)
              obtain ⟨x278, hx278⟩ := get_some hlt_hx278
              refine ha_yl 23 hF rfl rfl rfl (by kernel_rfl) (by kernel_rfl) (by kernel_rfl) (by decide) (fun _ _ _ h => h) (wn_t hF rfl rfl rfl rfl) (.inr hSS) (yl_indexAddr hF rfl rfl rfl (fun _ => run_idx' (k := 2) sl26 sz36 (hS.rdRow 4 rfl) hlt_hx278)) ?_
              clear hF; intro a hF
              refine ha_yl 24 hF rfl rfl rfl (by kernel_rfl) (by kernel_rfl) (by kernel_rfl) (by decide) (fun _ _ _ h => h) (wn_t hF rfl rfl rfl rfl) (.inr hSS) (yl_fieldAddr hF rfl rfl (fun w => run_fa fo36_2)) ?_
              clear hF; intro a hF
              refine ha_yl 26 hF rfl rfl rfl (by kernel_rfl) (by kernel_rfl) (by kernel_rfl) (by decide) (fun _ _ _ h => h) (wn_t hF rfl rfl rfl rfl) (.inr hSS) (yl_indexAddr hF rfl rfl rfl (fun w => by kernel_rfl : ∀ w, (Instr.indexAt 44 (.pointer (some ⟨g218, 0, none⟩)) (.int .i64 2)).run Try.prog w = .ok (.pointer (some ⟨g218, 2, none⟩)) w)) ?_
              clear hF; intro a hF
              refine ha_ld 25 hF rfl rfl rfl (by kernel_rfl) (by kernel_rfl) (by kernel_rfl) (by decide) (by kernel_rfl) (by kernel_rfl) (fun _ _ _ h => h) (wn_t hF rfl rfl rfl rfl) hSS (yl_loadAt hF rfl rfl ag3 (fun _ h => rd_cell (j := 2) (enc := enc36) (Sat.rdRow h 0 rfl) enc36_len hx278 rfl rfl)) ?_
              clear hF; intro a hF
              refine ha_ld 27 hF rfl rfl rfl (by kernel_rfl) (by kernel_rfl) (by kernel_rfl) (by decide) (by kernel_rfl) (by kernel_rfl) (fun _ _ _ h => h) (wn_t hF rfl rfl rfl rfl) hSS (yl_load (fun _ h => h) hF rfl rfl 1 rfl ag3 rfl) ?_
              clear hF; intro a hF
              refine ha_yl 28 hF rfl rfl rfl (by kernel_rfl) (by kernel_rfl) (by kernel_rfl) (by decide) (fun _ _ _ h => h) (wn_t hF rfl rfl rfl rfl) (.inr hSS) (yl_bin hF rfl rfl rfl rfl (fun _ => run_neq)) ?_
              clear hF; intro a hF
              replace hF := fr_set (b' := false) hF (by have h9 := hx278; cases (Option.some.inj h9 : E36.mk ((((1 : Int) + (r214)))) 0 ((c2)) = x278); rw [decide_eq_false_iff_not]; exact fun h => h rfl)
              refine ha_yl 29 hF rfl rfl rfl (by kernel_rfl) (by kernel_rfl) (by kernel_rfl) (by decide) (fun _ _ _ h => h) (wn_none rfl) (.inr hSS) (yl_pick (u := _) (v := undef) hF rfl rfl (fun h => by cases h) (fun _ => rfl)) ?_
              clear hF; intro a hF
              refine ha_done (by kernel_rfl) ?_ _
              refine then_n ?_
              refine c_cond_f hF rfl ?_
              refine wp_skip ?_
              refine inb_n ?_
              refine then_n ?_
              refine c_region ?_
              refine seq_yl hF (wn_none rfl) rfl rfl (yl_move hF rfl rfl) ?_
              clear hF; intro a hF
              refine seq_yl hF (wn_none rfl) rfl rfl (yl_bin hF rfl rfl rfl rfl (fun _ => run_inc (by omega))) ?_
              clear hF; intro a hF
              refine seq_yl hF (wn_none rfl) rfl rfl (yl_assign hF rfl rfl) ?_
              clear hF; intro a hF
              refine wpList_nil ?_
              refine then_n ?_
              exact ⟨_, (by omega), n + 1, it256, (c0), (c1), (c2), (some ad276), cvG, rfl, ⟨by omega, by omega, by omega, by omega, by omega⟩, hF.to [3, 4, 5, 6] rfl, (hS.sub [1, 2, 3, 4] (by decide) (by first | rfl | simp) (by simp))⟩
        · skip
          replace hF := fr_seti (b' := 2) hF (by assumption)
          refine seq_yl hF (wn_none rfl) rfl rfl (yl_move hF rfl rfl) ?_
          clear hF; intro a hF
          refine seq_wp (wn_none rfl) (wp_call (vs := [_, _]) hF rfl rfl rfl rfl cf9 (next_any _ _ _ _ _ _ _ (it223 : Nat) (8 : Int) (by omega) hS (by omega) (by omega)) ?_)
          clear hF; rintro _ w ⟨r279, it280, rfl, hb281, hiit280, hS1⟩ a hF; replace hS := hS1; clear hS1
          refine seq_yl hF (wn_none rfl) rfl rfl (yl_assign hF rfl rfl) ?_
          clear hF; intro a hF
          refine seq_yl hF (wn_none rfl) rfl rfl (yl_assign hF rfl rfl) ?_
          clear hF; intro a hF
          refine wpList_nil ?_
          refine then_n ?_
          refine c_seq ?_
          refine c_seq ?_
          refine c_region ?_
          refine seq_yl hF (wn_none rfl) rfl rfl (yl_move hF rfl rfl) ?_
          clear hF; intro a hF
          refine seq_wp (wn_none rfl) (wp_call (vs := [_, _]) hF rfl rfl rfl rfl cf9 (next_any _ _ _ _ _ _ _ (it280 : Nat) (2 : Int) (by omega) hS (by omega) (by omega)) ?_)
          clear hF; rintro _ w ⟨r282, it283, rfl, hb284, hiit283, hS1⟩ a hF; replace hS := hS1; clear hS1
          refine seq_yl hF (wn_none rfl) rfl rfl (yl_bin hF rfl rfl rfl rfl (fun _ => run_eql)) ?_
          clear hF; intro a hF
          refine wpList_nil ?_
          refine then_n ?_
          refine c_cond hF rfl (fun hc285 => ?_) (fun hc285 => ?_)
          · first | (replace hc285 := of_decide_eq_true hc285) | (replace hc285 := of_decide_eq_false (bnot_t hc285)) | (subst hc285) | (replace hc285 := bnot_t hc285; subst hc285) | (replace hc285 := bnot_t hc285) | skip
            refine c_seq ?_
            refine c_region ?_
            refine seq_yl hF (wn_none rfl) rfl rfl (yl_move hF rfl rfl) ?_
            clear hF; intro a hF
            refine seq_yl hF (wn_none rfl) rfl rfl (yl_move hF rfl rfl) ?_
            clear hF; intro a hF
            refine seq_yl hF (wn_none rfl) rfl rfl (yl_move hF rfl rfl) ?_
            clear hF; intro a hF
            refine seq_wp (wn_none rfl) (wp_call (vs := [_, _, _]) hF rfl rfl rfl rfl cf11 (charge_any _ [E36.mk ((((1 : Int) + (r208)))) 0 c0, E36.mk ((((1 : Int) + (r211)))) 0 c1, E36.mk ((((1 : Int) + (r214)))) 0 c2] (2 : Int) (r279) _ (hS.rdRow 3 rfl) (by first | omega | (simp; done) | (simp; omega) | (rw [chF_len]; first | omega | (simp; done) | (simp; omega)) | (rw [unF_len]; first | omega | (simp; done) | (simp; omega)))) ?_)
            clear hF; rintro _ w ⟨v286, rfl, hS1⟩ a hF
            replace hS := hS.callB hS1 rfl; clear hS1
            obtain ⟨Av286, cv286, rfl⟩ := hS.form 0 rfl
            refine seq_yl hF (wn_none rfl) rfl rfl (yl_move hF rfl rfl) ?_
            clear hF; intro a hF
            refine seq_yl hF (wn_none rfl) rfl rfl (yl_extract hF rfl rfl rfl) ?_
            clear hF; intro a hF
            refine seq_yl hF (wn_none rfl) rfl rfl (yl_extract hF rfl rfl rfl) ?_
            clear hF; intro a hF
            refine seq_yl hF (wn_none rfl) rfl rfl (yl_assign hF rfl rfl) ?_
            clear hF; intro a hF
            refine seq_yl hF (wn_none rfl) rfl rfl (yl_assign hF rfl rfl) ?_
            clear hF; intro a hF
            refine wpList_nil ?_
            refine then_n ?_
            refine c_seq ?_
            refine c_seq ?_
            refine ha_startS hS [3, 4] 14 (by kernel_rfl) ?_; clear hS; intro w hS
            have hSS := hS.sub [3, 4] (by decide) rfl (by simp)
            refine ha_yl 0 hF rfl rfl rfl (by kernel_rfl) (by kernel_rfl) (by kernel_rfl) (by decide) (fun _ _ _ h => h) (wn_none rfl) (.inr hSS) (yl_move hF rfl rfl) ?_
            clear hF; intro a hF
            refine ha_yl 1 hF rfl rfl rfl (by kernel_rfl) (by kernel_rfl) (by kernel_rfl) (by decide) (fun _ _ _ h => h) (wn_none rfl) (.inr hSS) (yl_bin hF rfl rfl rfl rfl (fun _ => run_eql)) ?_
            clear hF; intro a hF
            rcases acc_ch (G := [E36.mk ((((1 : Int) + (r208)))) 0 c0, E36.mk ((((1 : Int) + (r211)))) 0 c1, E36.mk ((((1 : Int) + (r214)))) 0 c2]) 2 (2 : Int) rfl (k := (r279)) (x := E36.mk ((((1 : Int) + (r214)))) 0 c2) hchk rfl (by omega) with ⟨hdd, hle, hch⟩ | ⟨hdd, hle, hch⟩ <;> dsimp only at hle
            · skip
              replace hF := fr_set (b' := true) hF (by assumption)
              refine ha_yl 2 hF rfl rfl rfl (by kernel_rfl) (by kernel_rfl) (by kernel_rfl) (by decide) (fun _ _ _ h => h) (wn_none rfl) (.inr hSS) (yl_move hF rfl rfl) ?_
              clear hF; intro a hF
              refine ha_yl 3 hF rfl rfl rfl (by kernel_rfl) (by kernel_rfl) (by kernel_rfl) (by decide) (fun _ _ _ h => h) (wn_none rfl) (.inr hSS) (yl_indexAddr hF rfl rfl rfl (fun w => by kernel_rfl : ∀ w, (Instr.indexAt 44 (.pointer (some ⟨g218, 0, none⟩)) (.int .i64 2)).run Try.prog w = .ok (.pointer (some ⟨g218, 2, none⟩)) w)) ?_
              clear hF; intro a hF
              refine ha_yl 5 hF rfl rfl rfl (by kernel_rfl) (by kernel_rfl) (by kernel_rfl) (by decide) (fun _ _ _ h => h) (wn_none rfl) (.inr hSS) (yl_move hF rfl rfl) ?_
              clear hF; intro a hF
              refine ha_yl 7 hF rfl rfl rfl (by kernel_rfl) (by kernel_rfl) (by kernel_rfl) (by decide) (fun _ _ _ h => h) (wn_none rfl) (.inr hSS) (yl_move hF rfl rfl) ?_
              clear hF; intro a hF
              refine ha_yl 8 hF rfl rfl rfl (by kernel_rfl) (by kernel_rfl) (by kernel_rfl) (by decide) (fun _ _ _ h => h) (wn_none rfl) (.inr hSS) (yl_move hF rfl rfl) ?_
              clear hF; intro a hF
              have hlt_hx287 : 2 < ([E36.mk ((((1 : Int) + (r208)))) 0 c0, E36.mk ((((1 : Int) + (r211)))) 0 c1, E36.mk ((((1 : Int) + (r214)))) 0 c2]).length := by first | omega | (simp; done) | (simp; omega)
              obtain ⟨ad288, rfl⟩ := rd_some (hS.rdRow 4 rfl) hlt_hx287
              obtain ⟨x287, hx287⟩ := get_some hlt_hx287
              refine ha_yl 9 hF rfl rfl rfl (by kernel_rfl) (by kernel_rfl) (by kernel_rfl) (by decide) (fun _ _ _ h => h) (wn_none rfl) (.inr hSS) (yl_indexAddr hF rfl rfl rfl (fun _ => run_idx' (k := 2) sl26 sz36 (hS.rdRow 4 rfl) hlt_hx287)) ?_
              clear hF; intro a hF
              refine ha_yl 10 hF rfl rfl rfl (by kernel_rfl) (by kernel_rfl) (by kernel_rfl) (by decide) (fun _ _ _ h => h) (wn_none rfl) (.inr hSS) (yl_fieldAddr hF rfl rfl (fun w => run_fa0 fo36_0)) ?_
              clear hF; intro a hF
              refine ha_ld 4 hF rfl rfl rfl (by kernel_rfl) (by kernel_rfl) (by kernel_rfl) (by decide) (by kernel_rfl) (by kernel_rfl) (fun _ _ _ h => h) (wn_none rfl) hSS (yl_load (fun _ h => h) hF rfl rfl 0 rfl ag3 rfl) ?_
              clear hF; intro a hF
              refine ha_yl 6 hF rfl rfl rfl (by kernel_rfl) (by kernel_rfl) (by kernel_rfl) (by decide) (fun _ _ _ h => h) (wn_none rfl) (.inr hSS) (yl_bin hF rfl rfl rfl rfl (fun _ => run_add (by refine ⟨?_, ?_⟩ <;> omega))) ?_
              clear hF; intro a hF
              refine ha_ld 11 hF rfl rfl rfl (by kernel_rfl) (by kernel_rfl) (by kernel_rfl) (by decide) (by kernel_rfl) (by kernel_rfl) (fun _ _ _ h => h) (wn_none rfl) hSS (yl_loadAt hF rfl rfl ag3 (fun _ h => rd_cell0 (enc := enc36) (Sat.rdRow h 1 rfl) enc36_len hx287 rfl rfl)) ?_
              clear hF; intro a hF
              refine ha_yl 12 hF rfl rfl rfl (by kernel_rfl) (by kernel_rfl) (by kernel_rfl) (by decide) (fun _ _ _ h => h) (wn_none rfl) (.inr hSS) (yl_bin hF rfl rfl rfl rfl (fun _ => run_leq)) ?_
              clear hF; intro a hF
              refine ha_yl 13 hF rfl rfl rfl (by kernel_rfl) (by kernel_rfl) (by kernel_rfl) (by decide) (fun _ _ _ h => h) (wn_none rfl) (.inr hSS) (yl_bin hF rfl rfl rfl rfl (fun _ => run_neb Try.underlying4)) ?_
              clear hF; intro a hF
              replace hF := fr_set (b' := false) hF (by have hq : (decide ((((c2) + (r279))) ≤ (x287.f0))) = true := decide_eq_true (by cases (Option.some.inj hx287 : E36.mk ((((1 : Int) + (r214)))) 0 c2 = x287); (try dsimp only); omega); rw [hq]; rfl)
              refine ha_done (by kernel_rfl) ?_ _
              refine then_n ?_
              refine c_cond_f hF rfl ?_
              refine wp_skip ?_
              refine then_n ?_
              refine c_seq ?_
              refine c_region ?_
              refine seq_yl hF (wn_none rfl) rfl rfl (yl_move hF rfl rfl) ?_
              clear hF; intro a hF
              refine seq_yl hF (wn_none rfl) rfl rfl (yl_bin hF rfl rfl rfl rfl (fun _ => run_eql)) ?_
              clear hF; intro a hF
              replace hF := fr_set (b' := true) hF (hdd)
              refine wpList_nil ?_
              refine then_n ?_
              refine c_cond_t hF rfl ?_
              refine c_seq ?_
              refine c_region ?_
              refine seq_yl hF (wn_none rfl) rfl rfl (yl_move hF rfl rfl) ?_
              clear hF; intro a hF
              refine seq_yl hF (wn_none rfl) rfl rfl (yl_assign hF rfl rfl) ?_
              clear hF; intro a hF
              refine wpList_nil ?_
              refine then_n ?_
              refine c_region ?_
              refine seq_yl hF (wn_none rfl) rfl rfl (yl_move hF rfl rfl) ?_
              clear hF; intro a hF
              refine seq_yl hF (wn_none rfl) rfl rfl (yl_indexAddr hF rfl rfl rfl (fun w => by kernel_rfl : ∀ w, (Instr.indexAt 44 (.pointer (some ⟨g218, 0, none⟩)) (.int .i64 2)).run Try.prog w = .ok (.pointer (some ⟨g218, 2, none⟩)) w)) ?_
              clear hF; intro a hF
              refine seq_yl hF (wn_none rfl) rfl rfl (yl_load (fun _ h => h ▸ hS) hF rfl rfl 3 rfl ag3 rfl) ?_
              clear hF; intro a hF
              refine seq_yl hF (wn_none rfl) rfl rfl (yl_move hF rfl rfl) ?_
              clear hF; intro a hF
              refine seq_yl hF (wn_none rfl) rfl rfl (yl_bin hF rfl rfl rfl rfl (fun _ => run_add (by refine ⟨?_, ?_⟩ <;> omega))) ?_
              clear hF; intro a hF
              refine seq_yl hF (wn_none rfl) rfl rfl (yl_indexAddr hF rfl rfl rfl (fun w => by kernel_rfl : ∀ w, (Instr.indexAt 44 (.pointer (some ⟨g218, 0, none⟩)) (.int .i64 2)).run Try.prog w = .ok (.pointer (some ⟨g218, 2, none⟩)) w)) ?_
              clear hF; intro a hF
              refine seq_wp (wn_none rfl) (wp_store (cs' := #[_, _, _]) hF hS rfl rfl rfl rfl 3 rfl sz3 (by simp [Value.cells, Value.oneCell']) (by simp [Value.cells]) rfl ?_)
              clear hF hS; intro a w hF hS
              refine wpList_nil ?_
              refine then_n ?_
              refine c_seq ?_
              refine ha_startS hS [0, 3] 30 (by kernel_rfl) ?_; clear hS; intro w hS
              have hSS := hS.sub [0, 3] (by decide) rfl (by simp)
              refine ha_yl 0 hF rfl rfl rfl (by kernel_rfl) (by kernel_rfl) (by kernel_rfl) (by decide) (fun _ _ _ h => h) (wn_none rfl) (.inr hSS) (yl_move hF rfl rfl) ?_
              clear hF; intro a hF
              refine ha_yl 1 hF rfl rfl rfl (by kernel_rfl) (by kernel_rfl) (by kernel_rfl) (by decide) (fun _ _ _ h => h) (wn_none rfl) (.inr hSS) (yl_len hF rfl rfl (fun _ => run_lenRd sl26 (hS.rdRow 0 rfl))) ?_
              clear hF; intro a hF
              refine ha_yl 2 hF rfl rfl rfl (by kernel_rfl) (by kernel_rfl) (by kernel_rfl) (by decide) (fun _ _ _ h => h) (wn_none rfl) (.inr hSS) (yl_bin hF rfl rfl rfl rfl (fun _ => run_neq)) ?_
              clear hF; intro a hF
              replace hF := fr_set (b' := false) hF (by rw [decide_eq_false_iff_not]; rw [hch]; exact fun h => h rfl)
              refine ha_yl 3 hF rfl rfl rfl (by kernel_rfl) (by kernel_rfl) (by kernel_rfl) (by decide) (fun _ _ _ h => h) (wn_none rfl) (.inr hSS) (yl_move hF rfl rfl) ?_
              clear hF; intro a hF
              refine ha_yl 4 hF rfl rfl rfl (by kernel_rfl) (by kernel_rfl) (by kernel_rfl) (by decide) (fun _ _ _ h => h) (wn_t hF rfl rfl rfl rfl) (.inr hSS) (yl_move hF rfl rfl) ?_
              clear hF; intro a hF
              have hlt_hx289 : 0 < ((chF [E36.mk ((((1 : Int) + (r208)))) 0 c0, E36.mk ((((1 : Int) + (r211)))) 0 c1, E36.mk ((((1 : Int) + (r214)))) 0 c2] (2 : Int) (r279)).1).length := by first | omega | (rw [chF_len]; simp; done) | (rw [unF_len]; simp; done) | (rw [chF_len, unF_len]; omega) | (rw [chF_len]; omega) | (rw [unF_len]; omega) | decide +kernel | (simp; omega)
              obtain ⟨ad290, rfl⟩ := rd_some (hS.rdRow 0 rfl) hlt_hx289
              obtain ⟨x289, hx289⟩ := get_some hlt_hx289
              refine ha_yl 5 hF rfl rfl rfl (by kernel_rfl) (by kernel_rfl) (by kernel_rfl) (by decide) (fun _ _ _ h => h) (wn_t hF rfl rfl rfl rfl) (.inr hSS) (yl_indexAddr hF rfl rfl rfl (fun _ => run_idx' (k := 0) sl26 sz36 (hS.rdRow 0 rfl) hlt_hx289)) ?_
              clear hF; intro a hF
              refine ha_yl 6 hF rfl rfl rfl (by kernel_rfl) (by kernel_rfl) (by kernel_rfl) (by decide) (fun _ _ _ h => h) (wn_t hF rfl rfl rfl rfl) (.inr hSS) (yl_fieldAddr hF rfl rfl (fun w => run_fa fo36_2)) ?_
              clear hF; intro a hF
              refine ha_yl 8 hF rfl rfl rfl (by kernel_rfl) (by kernel_rfl) (by kernel_rfl) (by decide) (fun _ _ _ h => h) (wn_t hF rfl rfl rfl rfl) (.inr hSS) (yl_indexAddr hF rfl rfl rfl (fun w => by kernel_rfl : ∀ w, (Instr.indexAt 44 (.pointer (some ⟨g218, 0, none⟩)) (.int .i64 0)).run Try.prog w = .ok (.pointer (some ⟨g218, 0, none⟩)) w)) ?_
              clear hF; intro a hF
              refine ha_ld 7 hF rfl rfl rfl (by kernel_rfl) (by kernel_rfl) (by kernel_rfl) (by decide) (by kernel_rfl) (by kernel_rfl) (fun _ _ _ h => h) (wn_t hF rfl rfl rfl rfl) hSS (yl_loadAt hF rfl rfl ag3 (fun _ h => rd_cell (j := 2) (enc := enc36) (Sat.rdRow h 0 rfl) enc36_len hx289 rfl rfl)) ?_
              clear hF; intro a hF
              refine ha_ld 9 hF rfl rfl rfl (by kernel_rfl) (by kernel_rfl) (by kernel_rfl) (by decide) (by kernel_rfl) (by kernel_rfl) (fun _ _ _ h => h) (wn_t hF rfl rfl rfl rfl) hSS (yl_load (fun _ h => h) hF rfl rfl 1 rfl ag3 rfl) ?_
              clear hF; intro a hF
              refine ha_yl 10 hF rfl rfl rfl (by kernel_rfl) (by kernel_rfl) (by kernel_rfl) (by decide) (fun _ _ _ h => h) (wn_t hF rfl rfl rfl rfl) (.inr hSS) (yl_bin hF rfl rfl rfl rfl (fun _ => run_neq)) ?_
              clear hF; intro a hF
              replace hF := fr_set (b' := false) hF (by have h9 := hx289; rw [hch] at h9; cases (Option.some.inj h9 : E36.mk ((((1 : Int) + (r208)))) 0 ((c0)) = x289); rw [decide_eq_false_iff_not]; exact fun h => h rfl)
              refine ha_yl 11 hF rfl rfl rfl (by kernel_rfl) (by kernel_rfl) (by kernel_rfl) (by decide) (fun _ _ _ h => h) (wn_none rfl) (.inr hSS) (yl_pick (u := _) (v := undef) hF rfl rfl (fun h => by cases h) (fun _ => rfl)) ?_
              clear hF; intro a hF
              refine ha_yl 12 hF rfl rfl rfl (by kernel_rfl) (by kernel_rfl) (by kernel_rfl) (by decide) (fun _ _ _ h => h) (wn_none rfl) (.inr hSS) (yl_move hF rfl rfl) ?_
              clear hF; intro a hF
              refine ha_yl 13 hF rfl rfl rfl (by kernel_rfl) (by kernel_rfl) (by kernel_rfl) (by decide) (fun _ _ _ h => h) (wn_t hF rfl rfl rfl rfl) (.inr hSS) (yl_move hF rfl rfl) ?_
              clear hF; intro a hF
              have hlt_hx291 : 1 < ((chF [E36.mk ((((1 : Int) + (r208)))) 0 c0, E36.mk ((((1 : Int) + (r211)))) 0 c1, E36.mk ((((1 : Int) + (r214)))) 0 c2] (2 : Int) (r279)).1).length := by first | omega | (rw [chF_len]; simp; done) | (rw [unF_len]; simp; done) | (rw [chF_len, unF_len]; omega) | (rw [chF_len]; omega) | (rw [unF_len]; omega) | decide +kernel | (simp; omega)
              obtain ⟨x291, hx291⟩ := get_some hlt_hx291
              refine ha_yl 14 hF rfl rfl rfl (by kernel_rfl) (by kernel_rfl) (by kernel_rfl) (by decide) (fun _ _ _ h => h) (wn_t hF rfl rfl rfl rfl) (.inr hSS) (yl_indexAddr hF rfl rfl rfl (fun _ => run_idx' (k := 1) sl26 sz36 (hS.rdRow 0 rfl) hlt_hx291)) ?_
              clear hF; intro a hF
              refine ha_yl 15 hF rfl rfl rfl (by kernel_rfl) (by kernel_rfl) (by kernel_rfl) (by decide) (fun _ _ _ h => h) (wn_t hF rfl rfl rfl rfl) (.inr hSS) (yl_fieldAddr hF rfl rfl (fun w => run_fa fo36_2)) ?_
              clear hF; intro a hF
              refine ha_yl 17 hF rfl rfl rfl (by kernel_rfl) (by kernel_rfl) (by kernel_rfl) (by decide) (fun _ _ _ h => h) (wn_t hF rfl rfl rfl rfl) (.inr hSS) (yl_indexAddr hF rfl rfl rfl (fun w => by kernel_rfl : ∀ w, (Instr.indexAt 44 (.pointer (some ⟨g218, 0, none⟩)) (.int .i64 1)).run Try.prog w = .ok (.pointer (some ⟨g218, 1, none⟩)) w)) ?_
              clear hF; intro a hF
              refine ha_ld 16 hF rfl rfl rfl (by kernel_rfl) (by kernel_rfl) (by kernel_rfl) (by decide) (by kernel_rfl) (by kernel_rfl) (fun _ _ _ h => h) (wn_t hF rfl rfl rfl rfl) hSS (yl_loadAt hF rfl rfl ag3 (fun _ h => rd_cell (j := 2) (enc := enc36) (Sat.rdRow h 0 rfl) enc36_len hx291 rfl rfl)) ?_
              clear hF; intro a hF
              refine ha_ld 18 hF rfl rfl rfl (by kernel_rfl) (by kernel_rfl) (by kernel_rfl) (by decide) (by kernel_rfl) (by kernel_rfl) (fun _ _ _ h => h) (wn_t hF rfl rfl rfl rfl) hSS (yl_load (fun _ h => h) hF rfl rfl 1 rfl ag3 rfl) ?_
              clear hF; intro a hF
              refine ha_yl 19 hF rfl rfl rfl (by kernel_rfl) (by kernel_rfl) (by kernel_rfl) (by decide) (fun _ _ _ h => h) (wn_t hF rfl rfl rfl rfl) (.inr hSS) (yl_bin hF rfl rfl rfl rfl (fun _ => run_neq)) ?_
              clear hF; intro a hF
              replace hF := fr_set (b' := false) hF (by have h9 := hx291; rw [hch] at h9; cases (Option.some.inj h9 : E36.mk ((((1 : Int) + (r211)))) 0 ((c1)) = x291); rw [decide_eq_false_iff_not]; exact fun h => h rfl)
              refine ha_yl 20 hF rfl rfl rfl (by kernel_rfl) (by kernel_rfl) (by kernel_rfl) (by decide) (fun _ _ _ h => h) (wn_none rfl) (.inr hSS) (yl_pick (u := _) (v := undef) hF rfl rfl (fun h => by cases h) (fun _ => rfl)) ?_
              clear hF; intro a hF
              refine ha_yl 21 hF rfl rfl rfl (by kernel_rfl) (by kernel_rfl) (by kernel_rfl) (by decide) (fun _ _ _ h => h) (wn_none rfl) (.inr hSS) (yl_move hF rfl rfl) ?_
              clear hF; intro a hF
              refine ha_yl 22 hF rfl rfl rfl (by kernel_rfl) (by kernel_rfl) (by kernel_rfl) (by decide) (fun _ _ _ h => h) (wn_t hF rfl rfl rfl rfl) (.inr hSS) (yl_move hF rfl rfl) ?_
              clear hF; intro a hF
              have hlt_hx292 : 2 < ((chF [E36.mk ((((1 : Int) + (r208)))) 0 c0, E36.mk ((((1 : Int) + (r211)))) 0 c1, E36.mk ((((1 : Int) + (r214)))) 0 c2] (2 : Int) (r279)).1).length := by first | omega | (rw [chF_len]; simp; done) | (rw [unF_len]; simp; done) | (rw [chF_len, unF_len]; omega) | (rw [chF_len]; omega) | (rw [unF_len]; omega) | decide +kernel | (simp; omega)
              obtain ⟨x292, hx292⟩ := get_some hlt_hx292
              refine ha_yl 23 hF rfl rfl rfl (by kernel_rfl) (by kernel_rfl) (by kernel_rfl) (by decide) (fun _ _ _ h => h) (wn_t hF rfl rfl rfl rfl) (.inr hSS) (yl_indexAddr hF rfl rfl rfl (fun _ => run_idx' (k := 2) sl26 sz36 (hS.rdRow 0 rfl) hlt_hx292)) ?_
              clear hF; intro a hF
              refine ha_yl 24 hF rfl rfl rfl (by kernel_rfl) (by kernel_rfl) (by kernel_rfl) (by decide) (fun _ _ _ h => h) (wn_t hF rfl rfl rfl rfl) (.inr hSS) (yl_fieldAddr hF rfl rfl (fun w => run_fa fo36_2)) ?_
              clear hF; intro a hF
              refine ha_yl 26 hF rfl rfl rfl (by kernel_rfl) (by kernel_rfl) (by kernel_rfl) (by decide) (fun _ _ _ h => h) (wn_t hF rfl rfl rfl rfl) (.inr hSS) (yl_indexAddr hF rfl rfl rfl (fun w => by kernel_rfl : ∀ w, (Instr.indexAt 44 (.pointer (some ⟨g218, 0, none⟩)) (.int .i64 2)).run Try.prog w = .ok (.pointer (some ⟨g218, 2, none⟩)) w)) ?_
              clear hF; intro a hF
              refine ha_ld 25 hF rfl rfl rfl (by kernel_rfl) (by kernel_rfl) (by kernel_rfl) (by decide) (by kernel_rfl) (by kernel_rfl) (fun _ _ _ h => h) (wn_t hF rfl rfl rfl rfl) hSS (yl_loadAt hF rfl rfl ag3 (fun _ h => rd_cell (j := 2) (enc := enc36) (Sat.rdRow h 0 rfl) enc36_len hx292 rfl rfl)) ?_
              clear hF; intro a hF
              refine ha_ld 27 hF rfl rfl rfl (by kernel_rfl) (by kernel_rfl) (by kernel_rfl) (by decide) (by kernel_rfl) (by kernel_rfl) (fun _ _ _ h => h) (wn_t hF rfl rfl rfl rfl) hSS (yl_load (fun _ h => h) hF rfl rfl 1 rfl ag3 rfl) ?_
              clear hF; intro a hF
              refine ha_yl 28 hF rfl rfl rfl (by kernel_rfl) (by kernel_rfl) (by kernel_rfl) (by decide) (fun _ _ _ h => h) (wn_t hF rfl rfl rfl rfl) (.inr hSS) (yl_bin hF rfl rfl rfl rfl (fun _ => run_neq)) ?_
              clear hF; intro a hF
              replace hF := fr_set (b' := false) hF (by have h9 := hx292; rw [hch] at h9; cases (Option.some.inj h9 : E36.mk ((((1 : Int) + (r214)))) 0 ((((c2) + (r279)))) = x292); rw [decide_eq_false_iff_not]; exact fun h => h rfl)
              refine ha_yl 29 hF rfl rfl rfl (by kernel_rfl) (by kernel_rfl) (by kernel_rfl) (by decide) (fun _ _ _ h => h) (wn_none rfl) (.inr hSS) (yl_pick (u := _) (v := undef) hF rfl rfl (fun h => by cases h) (fun _ => rfl)) ?_
              clear hF; intro a hF
              refine ha_done (by kernel_rfl) ?_ _
              refine then_n ?_
              refine c_cond_f hF rfl ?_
              refine wp_skip ?_
              refine inb_n ?_
              refine then_n ?_
              refine c_region ?_
              refine seq_yl hF (wn_none rfl) rfl rfl (yl_move hF rfl rfl) ?_
              clear hF; intro a hF
              refine seq_yl hF (wn_none rfl) rfl rfl (yl_bin hF rfl rfl rfl rfl (fun _ => run_inc (by omega))) ?_
              clear hF; intro a hF
              refine seq_yl hF (wn_none rfl) rfl rfl (yl_assign hF rfl rfl) ?_
              clear hF; intro a hF
              refine wpList_nil ?_
              refine then_n ?_
              rw [hch] at hS hF
              exact ⟨_, (by omega), n + 1, it283, (c0), (c1), (((c2) + (r279))), (some ad290), cv286, rfl, ⟨by omega, by omega, by omega, by omega, by omega⟩, hF.to [3, 4, 5, 6] rfl, (hS.sub [1, 2, 3, 0] (by decide) (by first | rfl | simp) (by simp))⟩
            · skip
              replace hF := fr_set (b' := false) hF (by assumption)
              refine ha_yl 2 hF rfl rfl rfl (by kernel_rfl) (by kernel_rfl) (by kernel_rfl) (by decide) (fun _ _ _ h => h) (wn_none rfl) (.inr hSS) (yl_move hF rfl rfl) ?_
              clear hF; intro a hF
              refine ha_yl 3 hF rfl rfl rfl (by kernel_rfl) (by kernel_rfl) (by kernel_rfl) (by decide) (fun _ _ _ h => h) (wn_none rfl) (.inr hSS) (yl_indexAddr hF rfl rfl rfl (fun w => by kernel_rfl : ∀ w, (Instr.indexAt 44 (.pointer (some ⟨g218, 0, none⟩)) (.int .i64 2)).run Try.prog w = .ok (.pointer (some ⟨g218, 2, none⟩)) w)) ?_
              clear hF; intro a hF
              refine ha_yl 5 hF rfl rfl rfl (by kernel_rfl) (by kernel_rfl) (by kernel_rfl) (by decide) (fun _ _ _ h => h) (wn_none rfl) (.inr hSS) (yl_move hF rfl rfl) ?_
              clear hF; intro a hF
              refine ha_yl 7 hF rfl rfl rfl (by kernel_rfl) (by kernel_rfl) (by kernel_rfl) (by decide) (fun _ _ _ h => h) (wn_none rfl) (.inr hSS) (yl_move hF rfl rfl) ?_
              clear hF; intro a hF
              refine ha_yl 8 hF rfl rfl rfl (by kernel_rfl) (by kernel_rfl) (by kernel_rfl) (by decide) (fun _ _ _ h => h) (wn_none rfl) (.inr hSS) (yl_move hF rfl rfl) ?_
              clear hF; intro a hF
              have hlt_hx293 : 2 < ([E36.mk ((((1 : Int) + (r208)))) 0 c0, E36.mk ((((1 : Int) + (r211)))) 0 c1, E36.mk ((((1 : Int) + (r214)))) 0 c2]).length := by first | omega | (simp; done) | (simp; omega)
              obtain ⟨ad294, rfl⟩ := rd_some (hS.rdRow 4 rfl) hlt_hx293
              obtain ⟨x293, hx293⟩ := get_some hlt_hx293
              refine ha_yl 9 hF rfl rfl rfl (by kernel_rfl) (by kernel_rfl) (by kernel_rfl) (by decide) (fun _ _ _ h => h) (wn_none rfl) (.inr hSS) (yl_indexAddr hF rfl rfl rfl (fun _ => run_idx' (k := 2) sl26 sz36 (hS.rdRow 4 rfl) hlt_hx293)) ?_
              clear hF; intro a hF
              refine ha_yl 10 hF rfl rfl rfl (by kernel_rfl) (by kernel_rfl) (by kernel_rfl) (by decide) (fun _ _ _ h => h) (wn_none rfl) (.inr hSS) (yl_fieldAddr hF rfl rfl (fun w => run_fa0 fo36_0)) ?_
              clear hF; intro a hF
              refine ha_ld 4 hF rfl rfl rfl (by kernel_rfl) (by kernel_rfl) (by kernel_rfl) (by decide) (by kernel_rfl) (by kernel_rfl) (fun _ _ _ h => h) (wn_none rfl) hSS (yl_load (fun _ h => h) hF rfl rfl 0 rfl ag3 rfl) ?_
              clear hF; intro a hF
              refine ha_yl 6 hF rfl rfl rfl (by kernel_rfl) (by kernel_rfl) (by kernel_rfl) (by decide) (fun _ _ _ h => h) (wn_none rfl) (.inr hSS) (yl_bin hF rfl rfl rfl rfl (fun _ => run_add (by refine ⟨?_, ?_⟩ <;> omega))) ?_
              clear hF; intro a hF
              refine ha_ld 11 hF rfl rfl rfl (by kernel_rfl) (by kernel_rfl) (by kernel_rfl) (by decide) (by kernel_rfl) (by kernel_rfl) (fun _ _ _ h => h) (wn_none rfl) hSS (yl_loadAt hF rfl rfl ag3 (fun _ h => rd_cell0 (enc := enc36) (Sat.rdRow h 1 rfl) enc36_len hx293 rfl rfl)) ?_
              clear hF; intro a hF
              refine ha_yl 12 hF rfl rfl rfl (by kernel_rfl) (by kernel_rfl) (by kernel_rfl) (by decide) (fun _ _ _ h => h) (wn_none rfl) (.inr hSS) (yl_bin hF rfl rfl rfl rfl (fun _ => run_leq)) ?_
              clear hF; intro a hF
              refine ha_yl 13 hF rfl rfl rfl (by kernel_rfl) (by kernel_rfl) (by kernel_rfl) (by decide) (fun _ _ _ h => h) (wn_none rfl) (.inr hSS) (yl_bin hF rfl rfl rfl rfl (fun _ => run_neb Try.underlying4)) ?_
              clear hF; intro a hF
              replace hF := fr_set (b' := false) hF (by have hq : (decide ((((c2) + (r279))) ≤ (x293.f0))) = false := decide_eq_false (by cases (Option.some.inj hx293 : E36.mk ((((1 : Int) + (r214)))) 0 c2 = x293); (try dsimp only); omega); rw [hq]; rfl)
              refine ha_done (by kernel_rfl) ?_ _
              refine then_n ?_
              refine c_cond_f hF rfl ?_
              refine wp_skip ?_
              refine then_n ?_
              refine c_seq ?_
              refine c_region ?_
              refine seq_yl hF (wn_none rfl) rfl rfl (yl_move hF rfl rfl) ?_
              clear hF; intro a hF
              refine seq_yl hF (wn_none rfl) rfl rfl (yl_bin hF rfl rfl rfl rfl (fun _ => run_eql)) ?_
              clear hF; intro a hF
              replace hF := fr_set (b' := false) hF (hdd)
              refine wpList_nil ?_
              refine then_n ?_
              refine c_cond_f hF rfl ?_
              refine wp_skip ?_
              refine then_n ?_
              refine c_seq ?_
              refine ha_startS hS [4, 3] 30 (by kernel_rfl) ?_; clear hS; intro w hS
              have hSS := hS.sub [4, 3] (by decide) rfl (by simp)
              refine ha_yl 0 hF rfl rfl rfl (by kernel_rfl) (by kernel_rfl) (by kernel_rfl) (by decide) (fun _ _ _ h => h) (wn_none rfl) (.inr hSS) (yl_move hF rfl rfl) ?_
              clear hF; intro a hF
              refine ha_yl 1 hF rfl rfl rfl (by kernel_rfl) (by kernel_rfl) (by kernel_rfl) (by decide) (fun _ _ _ h => h) (wn_none rfl) (.inr hSS) (yl_len hF rfl rfl (fun _ => run_lenRd sl26 (hS.rdRow 4 rfl))) ?_
              clear hF; intro a hF
              refine ha_yl 2 hF rfl rfl rfl (by kernel_rfl) (by kernel_rfl) (by kernel_rfl) (by decide) (fun _ _ _ h => h) (wn_none rfl) (.inr hSS) (yl_bin hF rfl rfl rfl rfl (fun _ => run_neq)) ?_
              clear hF; intro a hF
              replace hF := fr_set (b' := false) hF (by rw [decide_eq_false_iff_not]; exact fun h => h rfl)
              refine ha_yl 3 hF rfl rfl rfl (by kernel_rfl) (by kernel_rfl) (by kernel_rfl) (by decide) (fun _ _ _ h => h) (wn_none rfl) (.inr hSS) (yl_move hF rfl rfl) ?_
              clear hF; intro a hF
              refine ha_yl 4 hF rfl rfl rfl (by kernel_rfl) (by kernel_rfl) (by kernel_rfl) (by decide) (fun _ _ _ h => h) (wn_t hF rfl rfl rfl rfl) (.inr hSS) (yl_move hF rfl rfl) ?_
              clear hF; intro a hF
              have hlt_hx295 : 0 < ([E36.mk ((((1 : Int) + (r208)))) 0 c0, E36.mk ((((1 : Int) + (r211)))) 0 c1, E36.mk ((((1 : Int) + (r214)))) 0 c2]).length := by first | omega | (simp; done) | (simp; omega)
              obtain ⟨x295, hx295⟩ := get_some hlt_hx295
              refine ha_yl 5 hF rfl rfl rfl (by kernel_rfl) (by kernel_rfl) (by kernel_rfl) (by decide) (fun _ _ _ h => h) (wn_t hF rfl rfl rfl rfl) (.inr hSS) (yl_indexAddr hF rfl rfl rfl (fun _ => run_idx' (k := 0) sl26 sz36 (hS.rdRow 4 rfl) hlt_hx295)) ?_
              clear hF; intro a hF
              refine ha_yl 6 hF rfl rfl rfl (by kernel_rfl) (by kernel_rfl) (by kernel_rfl) (by decide) (fun _ _ _ h => h) (wn_t hF rfl rfl rfl rfl) (.inr hSS) (yl_fieldAddr hF rfl rfl (fun w => run_fa fo36_2)) ?_
              clear hF; intro a hF
              refine ha_yl 8 hF rfl rfl rfl (by kernel_rfl) (by kernel_rfl) (by kernel_rfl) (by decide) (fun _ _ _ h => h) (wn_t hF rfl rfl rfl rfl) (.inr hSS) (yl_indexAddr hF rfl rfl rfl (fun w => by kernel_rfl : ∀ w, (Instr.indexAt 44 (.pointer (some ⟨g218, 0, none⟩)) (.int .i64 0)).run Try.prog w = .ok (.pointer (some ⟨g218, 0, none⟩)) w)) ?_
              clear hF; intro a hF
              refine ha_ld 7 hF rfl rfl rfl (by kernel_rfl) (by kernel_rfl) (by kernel_rfl) (by decide) (by kernel_rfl) (by kernel_rfl) (fun _ _ _ h => h) (wn_t hF rfl rfl rfl rfl) hSS (yl_loadAt hF rfl rfl ag3 (fun _ h => rd_cell (j := 2) (enc := enc36) (Sat.rdRow h 0 rfl) enc36_len hx295 rfl rfl)) ?_
              clear hF; intro a hF
              refine ha_ld 9 hF rfl rfl rfl (by kernel_rfl) (by kernel_rfl) (by kernel_rfl) (by decide) (by kernel_rfl) (by kernel_rfl) (fun _ _ _ h => h) (wn_t hF rfl rfl rfl rfl) hSS (yl_load (fun _ h => h) hF rfl rfl 1 rfl ag3 rfl) ?_
              clear hF; intro a hF
              refine ha_yl 10 hF rfl rfl rfl (by kernel_rfl) (by kernel_rfl) (by kernel_rfl) (by decide) (fun _ _ _ h => h) (wn_t hF rfl rfl rfl rfl) (.inr hSS) (yl_bin hF rfl rfl rfl rfl (fun _ => run_neq)) ?_
              clear hF; intro a hF
              replace hF := fr_set (b' := false) hF (by have h9 := hx295; cases (Option.some.inj h9 : E36.mk ((((1 : Int) + (r208)))) 0 ((c0)) = x295); rw [decide_eq_false_iff_not]; exact fun h => h rfl)
              refine ha_yl 11 hF rfl rfl rfl (by kernel_rfl) (by kernel_rfl) (by kernel_rfl) (by decide) (fun _ _ _ h => h) (wn_none rfl) (.inr hSS) (yl_pick (u := _) (v := undef) hF rfl rfl (fun h => by cases h) (fun _ => rfl)) ?_
              clear hF; intro a hF
              refine ha_yl 12 hF rfl rfl rfl (by kernel_rfl) (by kernel_rfl) (by kernel_rfl) (by decide) (fun _ _ _ h => h) (wn_none rfl) (.inr hSS) (yl_move hF rfl rfl) ?_
              clear hF; intro a hF
              refine ha_yl 13 hF rfl rfl rfl (by kernel_rfl) (by kernel_rfl) (by kernel_rfl) (by decide) (fun _ _ _ h => h) (wn_t hF rfl rfl rfl rfl) (.inr hSS) (yl_move hF rfl rfl) ?_
              clear hF; intro a hF
              have hlt_hx296 : 1 < ([E36.mk ((((1 : Int) + (r208)))) 0 c0, E36.mk ((((1 : Int) + (r211)))) 0 c1, E36.mk ((((1 : Int) + (r214)))) 0 c2]).length := by first | omega | (simp; done) | (simp; omega)
              obtain ⟨x296, hx296⟩ := get_some hlt_hx296
              refine ha_yl 14 hF rfl rfl rfl (by kernel_rfl) (by kernel_rfl) (by kernel_rfl) (by decide) (fun _ _ _ h => h) (wn_t hF rfl rfl rfl rfl) (.inr hSS) (yl_indexAddr hF rfl rfl rfl (fun _ => run_idx' (k := 1) sl26 sz36 (hS.rdRow 4 rfl) hlt_hx296)) ?_
              clear hF; intro a hF
              refine ha_yl 15 hF rfl rfl rfl (by kernel_rfl) (by kernel_rfl) (by kernel_rfl) (by decide) (fun _ _ _ h => h) (wn_t hF rfl rfl rfl rfl) (.inr hSS) (yl_fieldAddr hF rfl rfl (fun w => run_fa fo36_2)) ?_
              clear hF; intro a hF
              refine ha_yl 17 hF rfl rfl rfl (by kernel_rfl) (by kernel_rfl) (by kernel_rfl) (by decide) (fun _ _ _ h => h) (wn_t hF rfl rfl rfl rfl) (.inr hSS) (yl_indexAddr hF rfl rfl rfl (fun w => by kernel_rfl : ∀ w, (Instr.indexAt 44 (.pointer (some ⟨g218, 0, none⟩)) (.int .i64 1)).run Try.prog w = .ok (.pointer (some ⟨g218, 1, none⟩)) w)) ?_
              clear hF; intro a hF
              refine ha_ld 16 hF rfl rfl rfl (by kernel_rfl) (by kernel_rfl) (by kernel_rfl) (by decide) (by kernel_rfl) (by kernel_rfl) (fun _ _ _ h => h) (wn_t hF rfl rfl rfl rfl) hSS (yl_loadAt hF rfl rfl ag3 (fun _ h => rd_cell (j := 2) (enc := enc36) (Sat.rdRow h 0 rfl) enc36_len hx296 rfl rfl)) ?_
              clear hF; intro a hF
              refine ha_ld 18 hF rfl rfl rfl (by kernel_rfl) (by kernel_rfl) (by kernel_rfl) (by decide) (by kernel_rfl) (by kernel_rfl) (fun _ _ _ h => h) (wn_t hF rfl rfl rfl rfl) hSS (yl_load (fun _ h => h) hF rfl rfl 1 rfl ag3 rfl) ?_
              clear hF; intro a hF
              refine ha_yl 19 hF rfl rfl rfl (by kernel_rfl) (by kernel_rfl) (by kernel_rfl) (by decide) (fun _ _ _ h => h) (wn_t hF rfl rfl rfl rfl) (.inr hSS) (yl_bin hF rfl rfl rfl rfl (fun _ => run_neq)) ?_
              clear hF; intro a hF
              replace hF := fr_set (b' := false) hF (by have h9 := hx296; cases (Option.some.inj h9 : E36.mk ((((1 : Int) + (r211)))) 0 ((c1)) = x296); rw [decide_eq_false_iff_not]; exact fun h => h rfl)
              refine ha_yl 20 hF rfl rfl rfl (by kernel_rfl) (by kernel_rfl) (by kernel_rfl) (by decide) (fun _ _ _ h => h) (wn_none rfl) (.inr hSS) (yl_pick (u := _) (v := undef) hF rfl rfl (fun h => by cases h) (fun _ => rfl)) ?_
              clear hF; intro a hF
              refine ha_yl 21 hF rfl rfl rfl (by kernel_rfl) (by kernel_rfl) (by kernel_rfl) (by decide) (fun _ _ _ h => h) (wn_none rfl) (.inr hSS) (yl_move hF rfl rfl) ?_
              clear hF; intro a hF
              refine ha_yl 22 hF rfl rfl rfl (by kernel_rfl) (by kernel_rfl) (by kernel_rfl) (by decide) (fun _ _ _ h => h) (wn_t hF rfl rfl rfl rfl) (.inr hSS) (yl_move hF rfl rfl) ?_
              clear hF; intro a hF
              refine ha_yl 23 hF rfl rfl rfl (by kernel_rfl) (by kernel_rfl) (by kernel_rfl) (by decide) (fun _ _ _ h => h) (wn_t hF rfl rfl rfl rfl) (.inr hSS) (yl_indexAddr hF rfl rfl rfl (fun _ => run_idx' (k := 2) sl26 sz36 (hS.rdRow 4 rfl) hlt_hx293)) ?_
              clear hF; intro a hF
              refine ha_yl 24 hF rfl rfl rfl (by kernel_rfl) (by kernel_rfl) (by kernel_rfl) (by decide) (fun _ _ _ h => h) (wn_t hF rfl rfl rfl rfl) (.inr hSS) (yl_fieldAddr hF rfl rfl (fun w => run_fa fo36_2)) ?_
              clear hF; intro a hF
              refine ha_yl 26 hF rfl rfl rfl (by kernel_rfl) (by kernel_rfl) (by kernel_rfl) (by decide) (fun _ _ _ h => h) (wn_t hF rfl rfl rfl rfl) (.inr hSS) (yl_indexAddr hF rfl rfl rfl (fun w => by kernel_rfl : ∀ w, (Instr.indexAt 44 (.pointer (some ⟨g218, 0, none⟩)) (.int .i64 2)).run Try.prog w = .ok (.pointer (some ⟨g218, 2, none⟩)) w)) ?_
              clear hF; intro a hF
              refine ha_ld 25 hF rfl rfl rfl (by kernel_rfl) (by kernel_rfl) (by kernel_rfl) (by decide) (by kernel_rfl) (by kernel_rfl) (fun _ _ _ h => h) (wn_t hF rfl rfl rfl rfl) hSS (yl_loadAt hF rfl rfl ag3 (fun _ h => rd_cell (j := 2) (enc := enc36) (Sat.rdRow h 0 rfl) enc36_len hx293 rfl rfl)) ?_
              clear hF; intro a hF
              refine ha_ld 27 hF rfl rfl rfl (by kernel_rfl) (by kernel_rfl) (by kernel_rfl) (by decide) (by kernel_rfl) (by kernel_rfl) (fun _ _ _ h => h) (wn_t hF rfl rfl rfl rfl) hSS (yl_load (fun _ h => h) hF rfl rfl 1 rfl ag3 rfl) ?_
              clear hF; intro a hF
              refine ha_yl 28 hF rfl rfl rfl (by kernel_rfl) (by kernel_rfl) (by kernel_rfl) (by decide) (fun _ _ _ h => h) (wn_t hF rfl rfl rfl rfl) (.inr hSS) (yl_bin hF rfl rfl rfl rfl (fun _ => run_neq)) ?_
              clear hF; intro a hF
              replace hF := fr_set (b' := false) hF (by have h9 := hx293; cases (Option.some.inj h9 : E36.mk ((((1 : Int) + (r214)))) 0 ((c2)) = x293); rw [decide_eq_false_iff_not]; exact fun h => h rfl)
              refine ha_yl 29 hF rfl rfl rfl (by kernel_rfl) (by kernel_rfl) (by kernel_rfl) (by decide) (fun _ _ _ h => h) (wn_none rfl) (.inr hSS) (yl_pick (u := _) (v := undef) hF rfl rfl (fun h => by cases h) (fun _ => rfl)) ?_
              clear hF; intro a hF
              refine ha_done (by kernel_rfl) ?_ _
              refine then_n ?_
              refine c_cond_f hF rfl ?_
              refine wp_skip ?_
              refine inb_n ?_
              refine then_n ?_
              refine c_region ?_
              refine seq_yl hF (wn_none rfl) rfl rfl (yl_move hF rfl rfl) ?_
              clear hF; intro a hF
              refine seq_yl hF (wn_none rfl) rfl rfl (yl_bin hF rfl rfl rfl rfl (fun _ => run_inc (by omega))) ?_
              clear hF; intro a hF
              refine seq_yl hF (wn_none rfl) rfl rfl (yl_assign hF rfl rfl) ?_
              clear hF; intro a hF
              refine wpList_nil ?_
              refine then_n ?_
              exact ⟨_, (by omega), n + 1, it283, (c0), (c1), (c2), (some ad294), cvG, rfl, ⟨by omega, by omega, by omega, by omega, by omega⟩, hF.to [3, 4, 5, 6] rfl, (hS.sub [1, 2, 3, 4] (by decide) (by first | rfl | simp) (by simp))⟩
          · first | (replace hc285 := of_decide_eq_false hc285) | (replace hc285 := of_decide_eq_true (bnot_f hc285)) | (subst hc285) | (replace hc285 := bnot_f hc285; subst hc285) | (replace hc285 := bnot_f hc285) | skip
            refine c_seq ?_
            refine c_region ?_
            refine seq_yl hF (wn_none rfl) rfl rfl (yl_move hF rfl rfl) ?_
            clear hF; intro a hF
            refine seq_yl hF (wn_none rfl) rfl rfl (yl_move hF rfl rfl) ?_
            clear hF; intro a hF
            refine seq_yl hF (wn_none rfl) rfl rfl (yl_move hF rfl rfl) ?_
            clear hF; intro a hF
            refine seq_wp (wn_none rfl) (wp_call (vs := [_, _, _]) hF rfl rfl rfl rfl cf13 (uncharge_any _ [E36.mk ((((1 : Int) + (r208)))) 0 c0, E36.mk ((((1 : Int) + (r211)))) 0 c1, E36.mk ((((1 : Int) + (r214)))) 0 c2] (2 : Int) (r279) _ (hS.rdRow 3 rfl) (by first | omega | (simp; done) | (simp; omega) | (rw [chF_len]; first | omega | (simp; done) | (simp; omega)) | (rw [unF_len]; first | omega | (simp; done) | (simp; omega)))) ?_)
            clear hF; rintro _ w ⟨v297, rfl, hS1⟩ a hF
            replace hS := hS.callB hS1 rfl; clear hS1
            obtain ⟨Av297, cv297, rfl⟩ := hS.form 0 rfl
            refine seq_yl hF (wn_none rfl) rfl rfl (yl_move hF rfl rfl) ?_
            clear hF; intro a hF
            refine seq_yl hF (wn_none rfl) rfl rfl (yl_extract hF rfl rfl rfl) ?_
            clear hF; intro a hF
            refine seq_yl hF (wn_none rfl) rfl rfl (yl_extract hF rfl rfl rfl) ?_
            clear hF; intro a hF
            refine seq_yl hF (wn_none rfl) rfl rfl (yl_assign hF rfl rfl) ?_
            clear hF; intro a hF
            refine seq_yl hF (wn_none rfl) rfl rfl (yl_assign hF rfl rfl) ?_
            clear hF; intro a hF
            refine wpList_nil ?_
            refine then_n ?_
            refine c_seq ?_
            refine c_seq ?_
            refine c_region ?_
            refine seq_yl hF (wn_none rfl) rfl rfl (yl_move hF rfl rfl) ?_
            clear hF; intro a hF
            refine seq_yl hF (wn_none rfl) rfl rfl (yl_bin hF rfl rfl rfl rfl (fun _ => run_eql)) ?_
            clear hF; intro a hF
            rcases acc_un (G := [E36.mk ((((1 : Int) + (r208)))) 0 c0, E36.mk ((((1 : Int) + (r211)))) 0 c1, E36.mk ((((1 : Int) + (r214)))) 0 c2]) 2 (2 : Int) rfl (k := (r279)) (x := E36.mk ((((1 : Int) + (r214)))) 0 c2) hchk rfl (by omega) with ⟨hdd, hle, hch⟩ | ⟨hdd, hle, hch⟩ <;> dsimp only at hle
            · skip
              replace hF := fr_set (b' := true) hF (by assumption)
              refine seq_yl hF (wn_none rfl) rfl rfl (yl_move hF rfl rfl) ?_
              clear hF; intro a hF
              refine seq_yl hF (wn_none rfl) rfl rfl (yl_move hF rfl rfl) ?_
              clear hF; intro a hF
              refine seq_yl hF (wn_none rfl) rfl rfl (yl_indexAddr hF rfl rfl rfl (fun w => by kernel_rfl : ∀ w, (Instr.indexAt 44 (.pointer (some ⟨g218, 0, none⟩)) (.int .i64 2)).run Try.prog w = .ok (.pointer (some ⟨g218, 2, none⟩)) w)) ?_
              clear hF; intro a hF
              refine seq_yl hF (wn_none rfl) rfl rfl (yl_load (fun _ h => h ▸ hS) hF rfl rfl 3 rfl ag3 rfl) ?_
              clear hF; intro a hF
              refine seq_yl hF (wn_none rfl) rfl rfl (yl_bin hF rfl rfl rfl rfl (fun _ => run_leq)) ?_
              clear hF; intro a hF
              refine seq_yl hF (wn_none rfl) rfl rfl (yl_bin hF rfl rfl rfl rfl (fun _ => run_neb Try.underlying4)) ?_
              clear hF; intro a hF
              replace hF := fr_set (b' := false) hF (by have hq : (decide ((r279) ≤ (c2))) = true := decide_eq_true (by (try dsimp only); omega); rw [hq]; rfl)
              refine wpList_nil ?_
              refine then_n ?_
              refine c_cond_f hF rfl ?_
              refine wp_skip ?_
              refine then_n ?_
              refine c_seq ?_
              refine c_region ?_
              refine seq_yl hF (wn_none rfl) rfl rfl (yl_move hF rfl rfl) ?_
              clear hF; intro a hF
              refine seq_yl hF (wn_none rfl) rfl rfl (yl_bin hF rfl rfl rfl rfl (fun _ => run_eql)) ?_
              clear hF; intro a hF
              replace hF := fr_set (b' := true) hF (hdd)
              refine wpList_nil ?_
              refine then_n ?_
              refine c_cond_t hF rfl ?_
              refine c_seq ?_
              refine c_region ?_
              refine seq_yl hF (wn_none rfl) rfl rfl (yl_move hF rfl rfl) ?_
              clear hF; intro a hF
              refine seq_yl hF (wn_none rfl) rfl rfl (yl_assign hF rfl rfl) ?_
              clear hF; intro a hF
              refine wpList_nil ?_
              refine then_n ?_
              refine c_region ?_
              refine seq_yl hF (wn_none rfl) rfl rfl (yl_move hF rfl rfl) ?_
              clear hF; intro a hF
              refine seq_yl hF (wn_none rfl) rfl rfl (yl_indexAddr hF rfl rfl rfl (fun w => by kernel_rfl : ∀ w, (Instr.indexAt 44 (.pointer (some ⟨g218, 0, none⟩)) (.int .i64 2)).run Try.prog w = .ok (.pointer (some ⟨g218, 2, none⟩)) w)) ?_
              clear hF; intro a hF
              refine seq_yl hF (wn_none rfl) rfl rfl (yl_load (fun _ h => h ▸ hS) hF rfl rfl 3 rfl ag3 rfl) ?_
              clear hF; intro a hF
              refine seq_yl hF (wn_none rfl) rfl rfl (yl_move hF rfl rfl) ?_
              clear hF; intro a hF
              refine seq_yl hF (wn_none rfl) rfl rfl (yl_bin hF rfl rfl rfl rfl (fun _ => run_sub (by refine ⟨?_, ?_⟩ <;> omega))) ?_
              clear hF; intro a hF
              refine seq_yl hF (wn_none rfl) rfl rfl (yl_indexAddr hF rfl rfl rfl (fun w => by kernel_rfl : ∀ w, (Instr.indexAt 44 (.pointer (some ⟨g218, 0, none⟩)) (.int .i64 2)).run Try.prog w = .ok (.pointer (some ⟨g218, 2, none⟩)) w)) ?_
              clear hF; intro a hF
              refine seq_wp (wn_none rfl) (wp_store (cs' := #[_, _, _]) hF hS rfl rfl rfl rfl 3 rfl sz3 (by simp [Value.cells, Value.oneCell']) (by simp [Value.cells]) rfl ?_)
              clear hF hS; intro a w hF hS
              refine wpList_nil ?_
              refine then_n ?_
              refine c_seq ?_
              refine ha_startS hS [0, 3] 30 (by kernel_rfl) ?_; clear hS; intro w hS
              have hSS := hS.sub [0, 3] (by decide) rfl (by simp)
              refine ha_yl 0 hF rfl rfl rfl (by kernel_rfl) (by kernel_rfl) (by kernel_rfl) (by decide) (fun _ _ _ h => h) (wn_none rfl) (.inr hSS) (yl_move hF rfl rfl) ?_
              clear hF; intro a hF
              refine ha_yl 1 hF rfl rfl rfl (by kernel_rfl) (by kernel_rfl) (by kernel_rfl) (by decide) (fun _ _ _ h => h) (wn_none rfl) (.inr hSS) (yl_len hF rfl rfl (fun _ => run_lenRd sl26 (hS.rdRow 0 rfl))) ?_
              clear hF; intro a hF
              refine ha_yl 2 hF rfl rfl rfl (by kernel_rfl) (by kernel_rfl) (by kernel_rfl) (by decide) (fun _ _ _ h => h) (wn_none rfl) (.inr hSS) (yl_bin hF rfl rfl rfl rfl (fun _ => run_neq)) ?_
              clear hF; intro a hF
              replace hF := fr_set (b' := false) hF (by rw [decide_eq_false_iff_not]; rw [hch]; exact fun h => h rfl)
              refine ha_yl 3 hF rfl rfl rfl (by kernel_rfl) (by kernel_rfl) (by kernel_rfl) (by decide) (fun _ _ _ h => h) (wn_none rfl) (.inr hSS) (yl_move hF rfl rfl) ?_
              clear hF; intro a hF
              refine ha_yl 4 hF rfl rfl rfl (by kernel_rfl) (by kernel_rfl) (by kernel_rfl) (by decide) (fun _ _ _ h => h) (wn_t hF rfl rfl rfl rfl) (.inr hSS) (yl_move hF rfl rfl) ?_
              clear hF; intro a hF
              have hlt_hx298 : 0 < ((unF [E36.mk ((((1 : Int) + (r208)))) 0 c0, E36.mk ((((1 : Int) + (r211)))) 0 c1, E36.mk ((((1 : Int) + (r214)))) 0 c2] (2 : Int) (r279)).1).length := by first | omega | (rw [chF_len]; simp; done) | (rw [unF_len]; simp; done) | (rw [chF_len, unF_len]; omega) | (rw [chF_len]; omega) | (rw [unF_len]; omega) | decide +kernel | (simp; omega)
              obtain ⟨ad299, rfl⟩ := rd_some (hS.rdRow 0 rfl) hlt_hx298
              obtain ⟨x298, hx298⟩ := get_some hlt_hx298
              refine ha_yl 5 hF rfl rfl rfl (by kernel_rfl) (by kernel_rfl) (by kernel_rfl) (by decide) (fun _ _ _ h => h) (wn_t hF rfl rfl rfl rfl) (.inr hSS) (yl_indexAddr hF rfl rfl rfl (fun _ => run_idx' (k := 0) sl26 sz36 (hS.rdRow 0 rfl) hlt_hx298)) ?_
              clear hF; intro a hF
              refine ha_yl 6 hF rfl rfl rfl (by kernel_rfl) (by kernel_rfl) (by kernel_rfl) (by decide) (fun _ _ _ h => h) (wn_t hF rfl rfl rfl rfl) (.inr hSS) (yl_fieldAddr hF rfl rfl (fun w => run_fa fo36_2)) ?_
              clear hF; intro a hF
              refine ha_yl 8 hF rfl rfl rfl (by kernel_rfl) (by kernel_rfl) (by kernel_rfl) (by decide) (fun _ _ _ h => h) (wn_t hF rfl rfl rfl rfl) (.inr hSS) (yl_indexAddr hF rfl rfl rfl (fun w => by kernel_rfl : ∀ w, (Instr.indexAt 44 (.pointer (some ⟨g218, 0, none⟩)) (.int .i64 0)).run Try.prog w = .ok (.pointer (some ⟨g218, 0, none⟩)) w)) ?_
              clear hF; intro a hF
              refine ha_ld 7 hF rfl rfl rfl (by kernel_rfl) (by kernel_rfl) (by kernel_rfl) (by decide) (by kernel_rfl) (by kernel_rfl) (fun _ _ _ h => h) (wn_t hF rfl rfl rfl rfl) hSS (yl_loadAt hF rfl rfl ag3 (fun _ h => rd_cell (j := 2) (enc := enc36) (Sat.rdRow h 0 rfl) enc36_len hx298 rfl rfl)) ?_
              clear hF; intro a hF
              refine ha_ld 9 hF rfl rfl rfl (by kernel_rfl) (by kernel_rfl) (by kernel_rfl) (by decide) (by kernel_rfl) (by kernel_rfl) (fun _ _ _ h => h) (wn_t hF rfl rfl rfl rfl) hSS (yl_load (fun _ h => h) hF rfl rfl 1 rfl ag3 rfl) ?_
              clear hF; intro a hF
              refine ha_yl 10 hF rfl rfl rfl (by kernel_rfl) (by kernel_rfl) (by kernel_rfl) (by decide) (fun _ _ _ h => h) (wn_t hF rfl rfl rfl rfl) (.inr hSS) (yl_bin hF rfl rfl rfl rfl (fun _ => run_neq)) ?_
              clear hF; intro a hF
              replace hF := fr_set (b' := false) hF (by have h9 := hx298; rw [hch] at h9; cases (Option.some.inj h9 : E36.mk ((((1 : Int) + (r208)))) 0 ((c0)) = x298); rw [decide_eq_false_iff_not]; exact fun h => h rfl)
              refine ha_yl 11 hF rfl rfl rfl (by kernel_rfl) (by kernel_rfl) (by kernel_rfl) (by decide) (fun _ _ _ h => h) (wn_none rfl) (.inr hSS) (yl_pick (u := _) (v := undef) hF rfl rfl (fun h => by cases h) (fun _ => rfl)) ?_
              clear hF; intro a hF
              refine ha_yl 12 hF rfl rfl rfl (by kernel_rfl) (by kernel_rfl) (by kernel_rfl) (by decide) (fun _ _ _ h => h) (wn_none rfl) (.inr hSS) (yl_move hF rfl rfl) ?_
              clear hF; intro a hF
              refine ha_yl 13 hF rfl rfl rfl (by kernel_rfl) (by kernel_rfl) (by kernel_rfl) (by decide) (fun _ _ _ h => h) (wn_t hF rfl rfl rfl rfl) (.inr hSS) (yl_move hF rfl rfl) ?_
              clear hF; intro a hF
              have hlt_hx300 : 1 < ((unF [E36.mk ((((1 : Int) + (r208)))) 0 c0, E36.mk ((((1 : Int) + (r211)))) 0 c1, E36.mk ((((1 : Int) + (r214)))) 0 c2] (2 : Int) (r279)).1).length := by first | omega | (rw [chF_len]; simp; done) | (rw [unF_len]; simp; done) | (rw [chF_len, unF_len]; omega) | (rw [chF_len]; omega) | (rw [unF_len]; omega) | decide +kernel | (simp; omega)
              obtain ⟨x300, hx300⟩ := get_some hlt_hx300
              refine ha_yl 14 hF rfl rfl rfl (by kernel_rfl) (by kernel_rfl) (by kernel_rfl) (by decide) (fun _ _ _ h => h) (wn_t hF rfl rfl rfl rfl) (.inr hSS) (yl_indexAddr hF rfl rfl rfl (fun _ => run_idx' (k := 1) sl26 sz36 (hS.rdRow 0 rfl) hlt_hx300)) ?_
              clear hF; intro a hF
              refine ha_yl 15 hF rfl rfl rfl (by kernel_rfl) (by kernel_rfl) (by kernel_rfl) (by decide) (fun _ _ _ h => h) (wn_t hF rfl rfl rfl rfl) (.inr hSS) (yl_fieldAddr hF rfl rfl (fun w => run_fa fo36_2)) ?_
              clear hF; intro a hF
              refine ha_yl 17 hF rfl rfl rfl (by kernel_rfl) (by kernel_rfl) (by kernel_rfl) (by decide) (fun _ _ _ h => h) (wn_t hF rfl rfl rfl rfl) (.inr hSS) (yl_indexAddr hF rfl rfl rfl (fun w => by kernel_rfl : ∀ w, (Instr.indexAt 44 (.pointer (some ⟨g218, 0, none⟩)) (.int .i64 1)).run Try.prog w = .ok (.pointer (some ⟨g218, 1, none⟩)) w)) ?_
              clear hF; intro a hF
              refine ha_ld 16 hF rfl rfl rfl (by kernel_rfl) (by kernel_rfl) (by kernel_rfl) (by decide) (by kernel_rfl) (by kernel_rfl) (fun _ _ _ h => h) (wn_t hF rfl rfl rfl rfl) hSS (yl_loadAt hF rfl rfl ag3 (fun _ h => rd_cell (j := 2) (enc := enc36) (Sat.rdRow h 0 rfl) enc36_len hx300 rfl rfl)) ?_
              clear hF; intro a hF
              refine ha_ld 18 hF rfl rfl rfl (by kernel_rfl) (by kernel_rfl) (by kernel_rfl) (by decide) (by kernel_rfl) (by kernel_rfl) (fun _ _ _ h => h) (wn_t hF rfl rfl rfl rfl) hSS (yl_load (fun _ h => h) hF rfl rfl 1 rfl ag3 rfl) ?_
              clear hF; intro a hF
              refine ha_yl 19 hF rfl rfl rfl (by kernel_rfl) (by kernel_rfl) (by kernel_rfl) (by decide) (fun _ _ _ h => h) (wn_t hF rfl rfl rfl rfl) (.inr hSS) (yl_bin hF rfl rfl rfl rfl (fun _ => run_neq)) ?_
              clear hF; intro a hF
              replace hF := fr_set (b' := false) hF (by have h9 := hx300; rw [hch] at h9; cases (Option.some.inj h9 : E36.mk ((((1 : Int) + (r211)))) 0 ((c1)) = x300); rw [decide_eq_false_iff_not]; exact fun h => h rfl)
              refine ha_yl 20 hF rfl rfl rfl (by kernel_rfl) (by kernel_rfl) (by kernel_rfl) (by decide) (fun _ _ _ h => h) (wn_none rfl) (.inr hSS) (yl_pick (u := _) (v := undef) hF rfl rfl (fun h => by cases h) (fun _ => rfl)) ?_
              clear hF; intro a hF
              refine ha_yl 21 hF rfl rfl rfl (by kernel_rfl) (by kernel_rfl) (by kernel_rfl) (by decide) (fun _ _ _ h => h) (wn_none rfl) (.inr hSS) (yl_move hF rfl rfl) ?_
              clear hF; intro a hF
              refine ha_yl 22 hF rfl rfl rfl (by kernel_rfl) (by kernel_rfl) (by kernel_rfl) (by decide) (fun _ _ _ h => h) (wn_t hF rfl rfl rfl rfl) (.inr hSS) (yl_move hF rfl rfl) ?_
              clear hF; intro a hF
              have hlt_hx301 : 2 < ((unF [E36.mk ((((1 : Int) + (r208)))) 0 c0, E36.mk ((((1 : Int) + (r211)))) 0 c1, E36.mk ((((1 : Int) + (r214)))) 0 c2] (2 : Int) (r279)).1).length := by first | omega | (rw [chF_len]; simp; done) | (rw [unF_len]; simp; done) | (rw [chF_len, unF_len]; omega) | (rw [chF_len]; omega) | (rw [unF_len]; omega) | decide +kernel | (simp; omega)
              obtain ⟨x301, hx301⟩ := get_some hlt_hx301
              refine ha_yl 23 hF rfl rfl rfl (by kernel_rfl) (by kernel_rfl) (by kernel_rfl) (by decide) (fun _ _ _ h => h) (wn_t hF rfl rfl rfl rfl) (.inr hSS) (yl_indexAddr hF rfl rfl rfl (fun _ => run_idx' (k := 2) sl26 sz36 (hS.rdRow 0 rfl) hlt_hx301)) ?_
              clear hF; intro a hF
              refine ha_yl 24 hF rfl rfl rfl (by kernel_rfl) (by kernel_rfl) (by kernel_rfl) (by decide) (fun _ _ _ h => h) (wn_t hF rfl rfl rfl rfl) (.inr hSS) (yl_fieldAddr hF rfl rfl (fun w => run_fa fo36_2)) ?_
              clear hF; intro a hF
              refine ha_yl 26 hF rfl rfl rfl (by kernel_rfl) (by kernel_rfl) (by kernel_rfl) (by decide) (fun _ _ _ h => h) (wn_t hF rfl rfl rfl rfl) (.inr hSS) (yl_indexAddr hF rfl rfl rfl (fun w => by kernel_rfl : ∀ w, (Instr.indexAt 44 (.pointer (some ⟨g218, 0, none⟩)) (.int .i64 2)).run Try.prog w = .ok (.pointer (some ⟨g218, 2, none⟩)) w)) ?_
              clear hF; intro a hF
              refine ha_ld 25 hF rfl rfl rfl (by kernel_rfl) (by kernel_rfl) (by kernel_rfl) (by decide) (by kernel_rfl) (by kernel_rfl) (fun _ _ _ h => h) (wn_t hF rfl rfl rfl rfl) hSS (yl_loadAt hF rfl rfl ag3 (fun _ h => rd_cell (j := 2) (enc := enc36) (Sat.rdRow h 0 rfl) enc36_len hx301 rfl rfl)) ?_
              clear hF; intro a hF
              refine ha_ld 27 hF rfl rfl rfl (by kernel_rfl) (by kernel_rfl) (by kernel_rfl) (by decide) (by kernel_rfl) (by kernel_rfl) (fun _ _ _ h => h) (wn_t hF rfl rfl rfl rfl) hSS (yl_load (fun _ h => h) hF rfl rfl 1 rfl ag3 rfl) ?_
              clear hF; intro a hF
              refine ha_yl 28 hF rfl rfl rfl (by kernel_rfl) (by kernel_rfl) (by kernel_rfl) (by decide) (fun _ _ _ h => h) (wn_t hF rfl rfl rfl rfl) (.inr hSS) (yl_bin hF rfl rfl rfl rfl (fun _ => run_neq)) ?_
              clear hF; intro a hF
              replace hF := fr_set (b' := false) hF (by have h9 := hx301; rw [hch] at h9; cases (Option.some.inj h9 : E36.mk ((((1 : Int) + (r214)))) 0 ((((c2) - (r279)))) = x301); rw [decide_eq_false_iff_not]; exact fun h => h rfl)
              refine ha_yl 29 hF rfl rfl rfl (by kernel_rfl) (by kernel_rfl) (by kernel_rfl) (by decide) (fun _ _ _ h => h) (wn_none rfl) (.inr hSS) (yl_pick (u := _) (v := undef) hF rfl rfl (fun h => by cases h) (fun _ => rfl)) ?_
              clear hF; intro a hF
              refine ha_done (by kernel_rfl) ?_ _
              refine then_n ?_
              refine c_cond_f hF rfl ?_
              refine wp_skip ?_
              refine inb_n ?_
              refine then_n ?_
              refine c_region ?_
              refine seq_yl hF (wn_none rfl) rfl rfl (yl_move hF rfl rfl) ?_
              clear hF; intro a hF
              refine seq_yl hF (wn_none rfl) rfl rfl (yl_bin hF rfl rfl rfl rfl (fun _ => run_inc (by omega))) ?_
              clear hF; intro a hF
              refine seq_yl hF (wn_none rfl) rfl rfl (yl_assign hF rfl rfl) ?_
              clear hF; intro a hF
              refine wpList_nil ?_
              refine then_n ?_
              rw [hch] at hS hF
              exact ⟨_, (by omega), n + 1, it283, (c0), (c1), (((c2) - (r279))), (some ad299), cv297, rfl, ⟨by omega, by omega, by omega, by omega, by omega⟩, hF.to [3, 4, 5, 6] rfl, (hS.sub [1, 2, 3, 0] (by decide) (by first | rfl | simp) (by simp))⟩
            · skip
              replace hF := fr_set (b' := false) hF (by assumption)
              refine seq_yl hF (wn_none rfl) rfl rfl (yl_move hF rfl rfl) ?_
              clear hF; intro a hF
              refine seq_yl hF (wn_none rfl) rfl rfl (yl_move hF rfl rfl) ?_
              clear hF; intro a hF
              refine seq_yl hF (wn_none rfl) rfl rfl (yl_indexAddr hF rfl rfl rfl (fun w => by kernel_rfl : ∀ w, (Instr.indexAt 44 (.pointer (some ⟨g218, 0, none⟩)) (.int .i64 2)).run Try.prog w = .ok (.pointer (some ⟨g218, 2, none⟩)) w)) ?_
              clear hF; intro a hF
              refine seq_yl hF (wn_none rfl) rfl rfl (yl_load (fun _ h => h ▸ hS) hF rfl rfl 3 rfl ag3 rfl) ?_
              clear hF; intro a hF
              refine seq_yl hF (wn_none rfl) rfl rfl (yl_bin hF rfl rfl rfl rfl (fun _ => run_leq)) ?_
              clear hF; intro a hF
              refine seq_yl hF (wn_none rfl) rfl rfl (yl_bin hF rfl rfl rfl rfl (fun _ => run_neb Try.underlying4)) ?_
              clear hF; intro a hF
              replace hF := fr_set (b' := false) hF (by have hq : (decide ((r279) ≤ (c2))) = false := decide_eq_false (by (try dsimp only); omega); rw [hq]; rfl)
              refine wpList_nil ?_
              refine then_n ?_
              refine c_cond_f hF rfl ?_
              refine wp_skip ?_
              refine then_n ?_
              refine c_seq ?_
              refine c_region ?_
              refine seq_yl hF (wn_none rfl) rfl rfl (yl_move hF rfl rfl) ?_
              clear hF; intro a hF
              refine seq_yl hF (wn_none rfl) rfl rfl (yl_bin hF rfl rfl rfl rfl (fun _ => run_eql)) ?_
              clear hF; intro a hF
              replace hF := fr_set (b' := false) hF (hdd)
              refine wpList_nil ?_
              refine then_n ?_
              refine c_cond_f hF rfl ?_
              refine wp_skip ?_
              refine then_n ?_
              refine c_seq ?_
              refine ha_startS hS [4, 3] 30 (by kernel_rfl) ?_; clear hS; intro w hS
              have hSS := hS.sub [4, 3] (by decide) rfl (by simp)
              refine ha_yl 0 hF rfl rfl rfl (by kernel_rfl) (by kernel_rfl) (by kernel_rfl) (by decide) (fun _ _ _ h => h) (wn_none rfl) (.inr hSS) (yl_move hF rfl rfl) ?_
              clear hF; intro a hF
              refine ha_yl 1 hF rfl rfl rfl (by kernel_rfl) (by kernel_rfl) (by kernel_rfl) (by decide) (fun _ _ _ h => h) (wn_none rfl) (.inr hSS) (yl_len hF rfl rfl (fun _ => run_lenRd sl26 (hS.rdRow 4 rfl))) ?_
              clear hF; intro a hF
              refine ha_yl 2 hF rfl rfl rfl (by kernel_rfl) (by kernel_rfl) (by kernel_rfl) (by decide) (fun _ _ _ h => h) (wn_none rfl) (.inr hSS) (yl_bin hF rfl rfl rfl rfl (fun _ => run_neq)) ?_
              clear hF; intro a hF
              replace hF := fr_set (b' := false) hF (by rw [decide_eq_false_iff_not]; exact fun h => h rfl)
              refine ha_yl 3 hF rfl rfl rfl (by kernel_rfl) (by kernel_rfl) (by kernel_rfl) (by decide) (fun _ _ _ h => h) (wn_none rfl) (.inr hSS) (yl_move hF rfl rfl) ?_
              clear hF; intro a hF
              refine ha_yl 4 hF rfl rfl rfl (by kernel_rfl) (by kernel_rfl) (by kernel_rfl) (by decide) (fun _ _ _ h => h) (wn_t hF rfl rfl rfl rfl) (.inr hSS) (yl_move hF rfl rfl) ?_
              clear hF; intro a hF
              have hlt_hx302 : 0 < ([E36.mk ((((1 : Int) + (r208)))) 0 c0, E36.mk ((((1 : Int) + (r211)))) 0 c1, E36.mk ((((1 : Int) + (r214)))) 0 c2]).length := by first | omega | (simp; done) | (simp; omega)
              obtain ⟨ad303, rfl⟩ := rd_some (hS.rdRow 4 rfl) hlt_hx302
              obtain ⟨x302, hx302⟩ := get_some hlt_hx302
              refine ha_yl 5 hF rfl rfl rfl (by kernel_rfl) (by kernel_rfl) (by kernel_rfl) (by decide) (fun _ _ _ h => h) (wn_t hF rfl rfl rfl rfl) (.inr hSS) (yl_indexAddr hF rfl rfl rfl (fun _ => run_idx' (k := 0) sl26 sz36 (hS.rdRow 4 rfl) hlt_hx302)) ?_
              clear hF; intro a hF
              refine ha_yl 6 hF rfl rfl rfl (by kernel_rfl) (by kernel_rfl) (by kernel_rfl) (by decide) (fun _ _ _ h => h) (wn_t hF rfl rfl rfl rfl) (.inr hSS) (yl_fieldAddr hF rfl rfl (fun w => run_fa fo36_2)) ?_
              clear hF; intro a hF
              refine ha_yl 8 hF rfl rfl rfl (by kernel_rfl) (by kernel_rfl) (by kernel_rfl) (by decide) (fun _ _ _ h => h) (wn_t hF rfl rfl rfl rfl) (.inr hSS) (yl_indexAddr hF rfl rfl rfl (fun w => by kernel_rfl : ∀ w, (Instr.indexAt 44 (.pointer (some ⟨g218, 0, none⟩)) (.int .i64 0)).run Try.prog w = .ok (.pointer (some ⟨g218, 0, none⟩)) w)) ?_
              clear hF; intro a hF
              refine ha_ld 7 hF rfl rfl rfl (by kernel_rfl) (by kernel_rfl) (by kernel_rfl) (by decide) (by kernel_rfl) (by kernel_rfl) (fun _ _ _ h => h) (wn_t hF rfl rfl rfl rfl) hSS (yl_loadAt hF rfl rfl ag3 (fun _ h => rd_cell (j := 2) (enc := enc36) (Sat.rdRow h 0 rfl) enc36_len hx302 rfl rfl)) ?_
              clear hF; intro a hF
              refine ha_ld 9 hF rfl rfl rfl (by kernel_rfl) (by kernel_rfl) (by kernel_rfl) (by decide) (by kernel_rfl) (by kernel_rfl) (fun _ _ _ h => h) (wn_t hF rfl rfl rfl rfl) hSS (yl_load (fun _ h => h) hF rfl rfl 1 rfl ag3 rfl) ?_
              clear hF; intro a hF
              refine ha_yl 10 hF rfl rfl rfl (by kernel_rfl) (by kernel_rfl) (by kernel_rfl) (by decide) (fun _ _ _ h => h) (wn_t hF rfl rfl rfl rfl) (.inr hSS) (yl_bin hF rfl rfl rfl rfl (fun _ => run_neq)) ?_
              clear hF; intro a hF
              replace hF := fr_set (b' := false) hF (by have h9 := hx302; cases (Option.some.inj h9 : E36.mk ((((1 : Int) + (r208)))) 0 ((c0)) = x302); rw [decide_eq_false_iff_not]; exact fun h => h rfl)
              refine ha_yl 11 hF rfl rfl rfl (by kernel_rfl) (by kernel_rfl) (by kernel_rfl) (by decide) (fun _ _ _ h => h) (wn_none rfl) (.inr hSS) (yl_pick (u := _) (v := undef) hF rfl rfl (fun h => by cases h) (fun _ => rfl)) ?_
              clear hF; intro a hF
              refine ha_yl 12 hF rfl rfl rfl (by kernel_rfl) (by kernel_rfl) (by kernel_rfl) (by decide) (fun _ _ _ h => h) (wn_none rfl) (.inr hSS) (yl_move hF rfl rfl) ?_
              clear hF; intro a hF
              refine ha_yl 13 hF rfl rfl rfl (by kernel_rfl) (by kernel_rfl) (by kernel_rfl) (by decide) (fun _ _ _ h => h) (wn_t hF rfl rfl rfl rfl) (.inr hSS) (yl_move hF rfl rfl) ?_
              clear hF; intro a hF
              have hlt_hx304 : 1 < ([E36.mk ((((1 : Int) + (r208)))) 0 c0, E36.mk ((((1 : Int) + (r211)))) 0 c1, E36.mk ((((1 : Int) + (r214)))) 0 c2]).length := by first | omega | (simp; done) | (simp; omega)
              obtain ⟨x304, hx304⟩ := get_some hlt_hx304
              refine ha_yl 14 hF rfl rfl rfl (by kernel_rfl) (by kernel_rfl) (by kernel_rfl) (by decide) (fun _ _ _ h => h) (wn_t hF rfl rfl rfl rfl) (.inr hSS) (yl_indexAddr hF rfl rfl rfl (fun _ => run_idx' (k := 1) sl26 sz36 (hS.rdRow 4 rfl) hlt_hx304)) ?_
              clear hF; intro a hF
              refine ha_yl 15 hF rfl rfl rfl (by kernel_rfl) (by kernel_rfl) (by kernel_rfl) (by decide) (fun _ _ _ h => h) (wn_t hF rfl rfl rfl rfl) (.inr hSS) (yl_fieldAddr hF rfl rfl (fun w => run_fa fo36_2)) ?_
              clear hF; intro a hF
              refine ha_yl 17 hF rfl rfl rfl (by kernel_rfl) (by kernel_rfl) (by kernel_rfl) (by decide) (fun _ _ _ h => h) (wn_t hF rfl rfl rfl rfl) (.inr hSS) (yl_indexAddr hF rfl rfl rfl (fun w => by kernel_rfl : ∀ w, (Instr.indexAt 44 (.pointer (some ⟨g218, 0, none⟩)) (.int .i64 1)).run Try.prog w = .ok (.pointer (some ⟨g218, 1, none⟩)) w)) ?_
              clear hF; intro a hF
              refine ha_ld 16 hF rfl rfl rfl (by kernel_rfl) (by kernel_rfl) (by kernel_rfl) (by decide) (by kernel_rfl) (by kernel_rfl) (fun _ _ _ h => h) (wn_t hF rfl rfl rfl rfl) hSS (yl_loadAt hF rfl rfl ag3 (fun _ h => rd_cell (j := 2) (enc := enc36) (Sat.rdRow h 0 rfl) enc36_len hx304 rfl rfl)) ?_
              clear hF; intro a hF
              refine ha_ld 18 hF rfl rfl rfl (by kernel_rfl) (by kernel_rfl) (by kernel_rfl) (by decide) (by kernel_rfl) (by kernel_rfl) (fun _ _ _ h => h) (wn_t hF rfl rfl rfl rfl) hSS (yl_load (fun _ h => h) hF rfl rfl 1 rfl ag3 rfl) ?_
              clear hF; intro a hF
              refine ha_yl 19 hF rfl rfl rfl (by kernel_rfl) (by kernel_rfl) (by kernel_rfl) (by decide) (fun _ _ _ h => h) (wn_t hF rfl rfl rfl rfl) (.inr hSS) (yl_bin hF rfl rfl rfl rfl (fun _ => run_neq)) ?_
              clear hF; intro a hF
              replace hF := fr_set (b' := false) hF (by have h9 := hx304; cases (Option.some.inj h9 : E36.mk ((((1 : Int) + (r211)))) 0 ((c1)) = x304); rw [decide_eq_false_iff_not]; exact fun h => h rfl)
              refine ha_yl 20 hF rfl rfl rfl (by kernel_rfl) (by kernel_rfl) (by kernel_rfl) (by decide) (fun _ _ _ h => h) (wn_none rfl) (.inr hSS) (yl_pick (u := _) (v := undef) hF rfl rfl (fun h => by cases h) (fun _ => rfl)) ?_
              clear hF; intro a hF
              refine ha_yl 21 hF rfl rfl rfl (by kernel_rfl) (by kernel_rfl) (by kernel_rfl) (by decide) (fun _ _ _ h => h) (wn_none rfl) (.inr hSS) (yl_move hF rfl rfl) ?_
              clear hF; intro a hF
              refine ha_yl 22 hF rfl rfl rfl (by kernel_rfl) (by kernel_rfl) (by kernel_rfl) (by decide) (fun _ _ _ h => h) (wn_t hF rfl rfl rfl rfl) (.inr hSS) (yl_move hF rfl rfl) ?_
              clear hF; intro a hF
              have hlt_hx305 : 2 < ([E36.mk ((((1 : Int) + (r208)))) 0 c0, E36.mk ((((1 : Int) + (r211)))) 0 c1, E36.mk ((((1 : Int) + (r214)))) 0 c2]).length := by first | omega | (simp; done) | (simp; omega)
              obtain ⟨x305, hx305⟩ := get_some hlt_hx305
              refine ha_yl 23 hF rfl rfl rfl (by kernel_rfl) (by kernel_rfl) (by kernel_rfl) (by decide) (fun _ _ _ h => h) (wn_t hF rfl rfl rfl rfl) (.inr hSS) (yl_indexAddr hF rfl rfl rfl (fun _ => run_idx' (k := 2) sl26 sz36 (hS.rdRow 4 rfl) hlt_hx305)) ?_
              clear hF; intro a hF
              refine ha_yl 24 hF rfl rfl rfl (by kernel_rfl) (by kernel_rfl) (by kernel_rfl) (by decide) (fun _ _ _ h => h) (wn_t hF rfl rfl rfl rfl) (.inr hSS) (yl_fieldAddr hF rfl rfl (fun w => run_fa fo36_2)) ?_
              clear hF; intro a hF
              refine ha_yl 26 hF rfl rfl rfl (by kernel_rfl) (by kernel_rfl) (by kernel_rfl) (by decide) (fun _ _ _ h => h) (wn_t hF rfl rfl rfl rfl) (.inr hSS) (yl_indexAddr hF rfl rfl rfl (fun w => by kernel_rfl : ∀ w, (Instr.indexAt 44 (.pointer (some ⟨g218, 0, none⟩)) (.int .i64 2)).run Try.prog w = .ok (.pointer (some ⟨g218, 2, none⟩)) w)) ?_
              clear hF; intro a hF
              refine ha_ld 25 hF rfl rfl rfl (by kernel_rfl) (by kernel_rfl) (by kernel_rfl) (by decide) (by kernel_rfl) (by kernel_rfl) (fun _ _ _ h => h) (wn_t hF rfl rfl rfl rfl) hSS (yl_loadAt hF rfl rfl ag3 (fun _ h => rd_cell (j := 2) (enc := enc36) (Sat.rdRow h 0 rfl) enc36_len hx305 rfl rfl)) ?_
              clear hF; intro a hF
              refine ha_ld 27 hF rfl rfl rfl (by kernel_rfl) (by kernel_rfl) (by kernel_rfl) (by decide) (by kernel_rfl) (by kernel_rfl) (fun _ _ _ h => h) (wn_t hF rfl rfl rfl rfl) hSS (yl_load (fun _ h => h) hF rfl rfl 1 rfl ag3 rfl) ?_
              clear hF; intro a hF
              refine ha_yl 28 hF rfl rfl rfl (by kernel_rfl) (by kernel_rfl) (by kernel_rfl) (by decide) (fun _ _ _ h => h) (wn_t hF rfl rfl rfl rfl) (.inr hSS) (yl_bin hF rfl rfl rfl rfl (fun _ => run_neq)) ?_
              clear hF; intro a hF
              replace hF := fr_set (b' := false) hF (by have h9 := hx305; cases (Option.some.inj h9 : E36.mk ((((1 : Int) + (r214)))) 0 ((c2)) = x305); rw [decide_eq_false_iff_not]; exact fun h => h rfl)
              refine ha_yl 29 hF rfl rfl rfl (by kernel_rfl) (by kernel_rfl) (by kernel_rfl) (by decide) (fun _ _ _ h => h) (wn_none rfl) (.inr hSS) (yl_pick (u := _) (v := undef) hF rfl rfl (fun h => by cases h) (fun _ => rfl)) ?_
              clear hF; intro a hF
              refine ha_done (by kernel_rfl) ?_ _
              refine then_n ?_
              refine c_cond_f hF rfl ?_
              refine wp_skip ?_
              refine inb_n ?_
              refine then_n ?_
              refine c_region ?_
              refine seq_yl hF (wn_none rfl) rfl rfl (yl_move hF rfl rfl) ?_
              clear hF; intro a hF
              refine seq_yl hF (wn_none rfl) rfl rfl (yl_bin hF rfl rfl rfl rfl (fun _ => run_inc (by omega))) ?_
              clear hF; intro a hF
              refine seq_yl hF (wn_none rfl) rfl rfl (yl_assign hF rfl rfl) ?_
              clear hF; intro a hF
              refine wpList_nil ?_
              refine then_n ?_
              exact ⟨_, (by omega), n + 1, it283, (c0), (c1), (c2), (some ad303), cvG, rfl, ⟨by omega, by omega, by omega, by omega, by omega⟩, hF.to [3, 4, 5, 6] rfl, (hS.sub [1, 2, 3, 4] (by decide) (by first | rfl | simp) (by simp))⟩
      · first | (replace hc221 := of_decide_eq_false hc221) | (replace hc221 := of_decide_eq_true (bnot_f hc221)) | (subst hc221) | (replace hc221 := bnot_f hc221; subst hc221) | (replace hc221 := bnot_f hc221) | skip
        refine wp_exit ?_
        refine then_x ?_
        refine then_x ?_
        refine inb_x ?_
        refine then_n ?_
        refine c_seq ?_
        refine c_region ?_
        refine seq_wp (wn_none rfl) (wp_call (vs := []) hF rfl rfl rfl rfl cf24 (awake_any _) ?_)
        clear hF; rintro _ w ⟨rfl, hS1⟩ a hF
        replace hS := hS.callB hS1 rfl; clear hS1
        refine seq_yl hF (wn_none rfl) rfl rfl (yl_assign hF rfl rfl) ?_
        clear hF; intro a hF
        refine wpList_nil ?_
        refine then_n ?_
        refine wp_ret ?_
        refine ret_t hF rfl rfl ?_
        exact ⟨_, rfl, rfl, (hS.sub [] (by decide) (by first | rfl | simp) (by simp))⟩
    · first | (replace hc219 := of_decide_eq_false hc219) | (replace hc219 := of_decide_eq_true (bnot_f hc219)) | (subst hc219) | (replace hc219 := bnot_f hc219; subst hc219) | (replace hc219 := bnot_f hc219) | skip
      refine seq_skip hF (wn_f hF rfl rfl rfl rfl) rfl rfl ?_
      clear hF; intro a hF
      refine seq_skip hF (wn_f hF rfl rfl rfl rfl) rfl rfl ?_
      clear hF; intro a hF
      refine seq_skip hF (wn_f hF rfl rfl rfl rfl) rfl rfl ?_
      clear hF; intro a hF
      refine seq_yl hF (wn_none rfl) rfl rfl (yl_pick (u := _) (v := undef) hF rfl rfl (fun h => by cases h) (fun _ => rfl)) ?_
      clear hF; intro a hF
      refine wpList_nil ?_
      refine then_n ?_
      refine c_cond_f hF rfl ?_
      refine wp_exit ?_
      refine then_x ?_
      refine then_x ?_
      refine inb_x ?_
      refine then_n ?_
      refine c_seq ?_
      refine c_region ?_
      refine seq_wp (wn_none rfl) (wp_call (vs := []) hF rfl rfl rfl rfl cf24 (awake_any _) ?_)
      clear hF; rintro _ w ⟨rfl, hS1⟩ a hF
      replace hS := hS.callB hS1 rfl; clear hS1
      refine seq_yl hF (wn_none rfl) rfl rfl (yl_assign hF rfl rfl) ?_
      clear hF; intro a hF
      refine wpList_nil ?_
      refine then_n ?_
      refine wp_ret ?_
      refine ret_t hF rfl rfl ?_
      exact ⟨_, rfl, rfl, (hS.sub [] (by decide) (by first | rfl | simp) (by simp))⟩

end Go.Proofs.Ytiifpgkdgnoafaa

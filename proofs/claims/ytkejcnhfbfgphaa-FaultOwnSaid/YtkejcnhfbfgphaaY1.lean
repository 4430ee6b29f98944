/- walks, printed by wip/gen -/
import Derived.Test.YtkejcnhfbfgphaaX9
import Derived.Test.YtkejcnhfbfgphaaXB
import Derived.Test.YtkejcnhfbfgphaaPF
namespace Go.Proofs.Ytkejcnhfbfgphaa
open Go.RowKit
set_option linter.unusedVariables false
set_option linter.unusedSimpArgs false

set_option maxHeartbeats 1000000 in
set_option maxRecDepth 100000 in
theorem torn_any (w0 w : World) (Ht : List Chunk) (st : ByteArray) (Alv : Option Addr) (clv : Nat) (L : List E67) (rm : Int) (i0 k s c : Int) (x : ByteArray) (fua : Bool) (bg en er dn : Int) (hf : Bool) (dl : Int) (hS : Sat w0 w (.row 67 2 (.slice Alv L.length clv) L.length (cells enc67 L) :: Ht)) (hd : okD st L rm) (hs : okS (st.size : Int) s c) (hx : (x.size : Int) = c * 8) :
  Fn Try.prog 40 #[.agg #[.string st, .slice Alv L.length clv, .int .i64 rm], .agg #[.int .i64 i0, .int .i64 k, .int .i64 s, .int .i64 c, .string x, .bool fua, .int .i64 bg, .int .i64 en, .int .i64 er, .int .i64 dn, .bool hf, .int .i64 dl]] w (fun v w' => ∃ (st1 : ByteArray) (lv1 : Value) (L1 : List E67) (rm1 : Int), v = .agg #[.string st1, lv1, .int .i64 rm1] ∧ tornF st L rm s c x fua dn hf = (st1, L1, rm1) ∧ Sat w0 w' (.row 67 2 lv1 (L1).length (cells enc67 (L1)) :: Ht)) := by
 have hdi := okD_I hd
 have hsx := hs
 simp only [okS, okI] at hsx
 have hdn := doneF_b (dn := dn) (c := c) (by omega)
 refine c_enterS (N := 66) (l := [_, _]) Try.func40 rfl rfl (fun a hF => ?_)
 refine c_seq ?_
 refine c_region ?_
 refine seq_wp (wn_none rfl) (wp_box (cs := #[_, _, _]) hF hS rfl rfl rfl rfl rfl ?_)
 clear hF hS; intro a w g668 hF hS
 refine seq_wp (wn_none rfl) (wp_box (cs := #[_, _, _, _, _, _, _, _, _, _, _, _]) hF hS rfl rfl rfl rfl rfl ?_)
 clear hF hS; intro a w g669 hF hS
 refine seq_wp (wn_none rfl) (wp_alloc (cs := #[_, _, _]) hF hS rfl rfl rfl zr43 rfl ?_)
 clear hF hS; intro a w g670 hF hS
 refine wpList_nil ?_
 refine then_n ?_
 refine c_seq ?_
 refine c_region ?_
 refine seq_yl hF (wn_none rfl) rfl rfl (yl_fieldAddr hF rfl rfl (fun w => by kernel_rfl : ∀ w, (Instr.fieldAt 45 (.pointer (some ⟨g669, 0, none⟩)) 8).run Try.prog w = .ok (.pointer (some ⟨g669, 8, none⟩)) w)) ?_; clear hF; intro a hF
 refine seq_yl hF (wn_none rfl) rfl rfl (yl_fieldAddr hF rfl rfl (fun w => by kernel_rfl : ∀ w, (Instr.fieldAt 27 (.pointer (some ⟨g669, 8, none⟩)) 1).run Try.prog w = .ok (.pointer (some ⟨g669, 9, none⟩)) w)) ?_; clear hF; intro a hF
 refine seq_yl hF (wn_none rfl) rfl rfl (yl_load (fun _ h => h ▸ hS) hF rfl rfl 1 rfl ag3 rfl) ?_; clear hF; intro a hF
 refine seq_yl hF (wn_none rfl) rfl rfl (yl_max2 hF rfl rfl rfl) ?_; clear hF; intro a hF
 refine seq_yl hF (wn_none rfl) rfl rfl (yl_fieldAddr hF rfl rfl (fun w => by kernel_rfl : ∀ w, (Instr.fieldAt 45 (.pointer (some ⟨g669, 0, none⟩)) 3).run Try.prog w = .ok (.pointer (some ⟨g669, 3, none⟩)) w)) ?_; clear hF; intro a hF
 refine seq_yl hF (wn_none rfl) rfl rfl (yl_load (fun _ h => h ▸ hS) hF rfl rfl 1 rfl ag3 rfl) ?_; clear hF; intro a hF
 refine seq_yl hF (wn_none rfl) rfl rfl (yl_min2 hF rfl rfl rfl) ?_; clear hF; intro a hF
 replace hF := fr_seti (b' := ((doneF dn c))) hF (by unfold doneF; omega)
 refine asN hF rfl rfl rfl rfl rfl ?_; clear hF; intro a hF
 refine wpList_nil ?_
 refine then_n ?_
 refine c_seq ?_
 refine c_region ?_
 refine seq_yl hF (wn_none rfl) rfl rfl (yl_fieldAddr hF rfl rfl (fun w => by kernel_rfl : ∀ w, (Instr.fieldAt 45 (.pointer (some ⟨g669, 0, none⟩)) 4).run Try.prog w = .ok (.pointer (some ⟨g669, 4, none⟩)) w)) ?_; clear hF; intro a hF
 refine seq_yl hF (wn_none rfl) rfl rfl (yl_load (fun _ h => h ▸ hS) hF rfl rfl 1 rfl ag9 rfl) ?_; clear hF; intro a hF
 refine mvN hF rfl rfl rfl rfl rfl ?_; clear hF; intro a hF
 refine seq_yl hF (wn_none rfl) rfl rfl (yl_bin hF rfl rfl rfl rfl (fun _ => run_mul (by refine ⟨?_, ?_⟩ <;> omega))) ?_; clear hF; intro a hF
 have hz671 := subs_size (s := x) (i := 0) (j := ((((doneF dn c)) * (8 : Int)))) (by omega) (by omega) (by omega)
 refine seq_yl hF (wn_none rfl) rfl rfl (yl_subsH (s := x) (j := ((((doneF dn c)) * (8 : Int)))) hF rfl rfl rfl Try.underlying9 (by omega) (by omega)) ?_; clear hF; intro a hF
 refine asN hF rfl rfl rfl rfl rfl ?_; clear hF; intro a hF
 refine wpList_nil ?_
 refine then_n ?_
 refine c_seq ?_
 refine c_seq ?_
 refine c_region ?_
 refine seq_yl hF (wn_none rfl) rfl rfl (yl_fieldAddr hF rfl rfl (fun w => by kernel_rfl : ∀ w, (Instr.fieldAt 45 (.pointer (some ⟨g669, 0, none⟩)) 8).run Try.prog w = .ok (.pointer (some ⟨g669, 8, none⟩)) w)) ?_; clear hF; intro a hF
 refine seq_yl hF (wn_none rfl) rfl rfl (yl_fieldAddr hF rfl rfl (fun w => by kernel_rfl : ∀ w, (Instr.fieldAt 27 (.pointer (some ⟨g669, 8, none⟩)) 2).run Try.prog w = .ok (.pointer (some ⟨g669, 10, none⟩)) w)) ?_; clear hF; intro a hF
 refine seq_yl hF (wn_none rfl) rfl rfl (yl_load (fun _ h => h ▸ hS) hF rfl rfl 1 rfl ag4 rfl) ?_; clear hF; intro a hF
 refine mvN hF rfl rfl rfl rfl rfl ?_; clear hF; intro a hF
 refine fr_split hF (fun hc672 hF => ?_) (fun hc672 hF => ?_)
 ·first | (replace hc672 := of_decide_eq_true hc672) | (replace hc672 := of_decide_eq_false (bnot_t hc672)) | (replace hc672 := bnot_t hc672) | skip
  try (have hc672x := hc672; simp only [okS, okI, okW, okP] at hc672x)
  refine seq_yl hF (wn_t hF rfl rfl rfl rfl) rfl rfl (yl_move hF rfl rfl) ?_; clear hF; intro a hF
  refine seq_yl hF (wn_t hF rfl rfl rfl rfl) rfl rfl (yl_fieldAddr hF rfl rfl (fun w => by kernel_rfl : ∀ w, (Instr.fieldAt 45 (.pointer (some ⟨g669, 0, none⟩)) 3).run Try.prog w = .ok (.pointer (some ⟨g669, 3, none⟩)) w)) ?_; clear hF; intro a hF
  refine seq_yl hF (wn_t hF rfl rfl rfl rfl) rfl rfl (yl_load (fun _ h => h ▸ hS) hF rfl rfl 1 rfl ag3 rfl) ?_; clear hF; intro a hF
  refine seq_yl hF (wn_t hF rfl rfl rfl rfl) rfl rfl (yl_bin hF rfl rfl rfl rfl (fun _ => run_lss)) ?_; clear hF; intro a hF
  refine seq_yl hF (wn_none rfl) rfl rfl (pkT hF rfl rfl rfl) ?_; clear hF; intro a hF
  refine wpList_nil ?_
  refine then_n ?_
  refine c_cond hF rfl (fun hc673 => ?_) (fun hc673 => ?_)
  ·first | (replace hc673 := of_decide_eq_true hc673) | (replace hc673 := of_decide_eq_false (bnot_t hc673)) | (replace hc673 := bnot_t hc673) | skip
   try (have hc673x := hc673; simp only [okS, okI, okW, okP] at hc673x)
   refine c_seq ?_
   refine c_region ?_
   refine seq_yl hF (wn_none rfl) rfl rfl (yl_loadK (rs := [_, _, _]) (fun _ h => h ▸ hS) hF rfl rfl 2 rfl ag43 sz43 rfl rfl) ?_; clear hF; intro a hF
   refine seq_yl hF (wn_none rfl) rfl rfl (yl_fieldAddr hF rfl rfl (fun w => by kernel_rfl : ∀ w, (Instr.fieldAt 45 (.pointer (some ⟨g669, 0, none⟩)) 2).run Try.prog w = .ok (.pointer (some ⟨g669, 2, none⟩)) w)) ?_; clear hF; intro a hF
   refine seq_yl hF (wn_none rfl) rfl rfl (yl_load (fun _ h => h ▸ hS) hF rfl rfl 1 rfl ag3 rfl) ?_; clear hF; intro a hF
   refine mvN hF rfl rfl rfl rfl rfl ?_; clear hF; intro a hF
   refine seq_yl hF (wn_none rfl) rfl rfl (yl_bin hF rfl rfl rfl rfl (fun _ => run_add (by refine ⟨?_, ?_⟩ <;> omega))) ?_; clear hF; intro a hF
   refine seq_wp (wn_none rfl) (wp_call (vs := [_, _, _]) hF rfl rfl rfl rfl cf41 (read_any st _ L (rm) (((s) + ((doneF dn c)))) (1 : Int) _ (hS.rdRow 3 rfl) (by first | omega | (simp; done)) (by first | omega | (simp; done))) ?_)
   clear hF; rintro _ w ⟨rfl, hS1⟩ a hF
   replace hS := hS.callB hS1 rfl; clear hS1
   have hz674 := readF_bd st L (rm) (((s) + ((doneF dn c)))) (1 : Int)
   have hr1 : (readF st L rm (s + doneF dn c) 1).1 = newest st L (s + doneF dn c) := by rw [read_one hd (okS_in hs hdn.1 (by omega))]
   rw [hr1] at hF; have hns := newest_size hd.2.2.2 (okS_in hs (i := doneF dn c) hdn.1 (by omega))
   refine mvN hF rfl rfl rfl rfl rfl ?_; clear hF; intro a hF
   refine seq_yl hF (wn_none rfl) rfl rfl (yl_extract hF rfl rfl rfl) ?_; clear hF; intro a hF
   refine seq_yl hF (wn_none rfl) rfl rfl (yl_extract hF rfl rfl rfl) ?_; clear hF; intro a hF
   refine asN hF rfl rfl rfl rfl rfl ?_; clear hF; intro a hF
   refine asN hF rfl rfl rfl rfl rfl ?_; clear hF; intro a hF
   refine wpList_nil ?_
   refine then_n ?_
   refine c_seq ?_
   refine c_region ?_
   refine mvN hF rfl rfl rfl rfl rfl ?_; clear hF; intro a hF
   refine seq_yl hF (wn_none rfl) rfl rfl (yl_len hF rfl rfl (fun _ => run_lenStr Try.underlying9)) ?_; clear hF; intro a hF
   replace hF := fr_seti (b' := ((doneF dn c * 8))) hF (by omega)
   refine asN hF rfl rfl rfl rfl rfl ?_; clear hF; intro a hF
   refine wpList_nil ?_
   refine then_n ?_
   refine ha_startS hS [1] 12 (by kernel_rfl) ?_; clear hS; intro w hS
   have hSS := hS.sub [1] (by decide) rfl (by simp)
   refine ha_y 0 hF rfl rfl rfl (wn_none rfl) (.inr hSS) (yl_move hF rfl rfl) ?_; clear hF; intro a hF
   refine ha_y 1 hF rfl rfl rfl (wn_none rfl) (.inr hSS) (yl_fieldAddr hF rfl rfl (fun w => by kernel_rfl : ∀ w, (Instr.fieldAt 45 (.pointer (some ⟨g669, 0, none⟩)) 4).run Try.prog w = .ok (.pointer (some ⟨g669, 4, none⟩)) w)) ?_; clear hF; intro a hF
   refine ha_y 3 hF rfl rfl rfl (wn_none rfl) (.inr hSS) (yl_move hF rfl rfl) ?_; clear hF; intro a hF
   refine ha_y 4 hF rfl rfl rfl (wn_none rfl) (.inr hSS) (yl_move hF rfl rfl) ?_; clear hF; intro a hF
   refine ha_y 5 hF rfl rfl rfl (wn_none rfl) (.inr hSS) (yl_bin hF rfl rfl rfl rfl (fun _ => run_add (by refine ⟨?_, ?_⟩ <;> omega))) ?_; clear hF; intro a hF
   refine ha_y 7 hF rfl rfl rfl (wn_none rfl) (.inr hSS) (yl_move hF rfl rfl) ?_; clear hF; intro a hF
   have hz675 := subs_size (s := (newest st L (s + doneF dn c))) (i := (4 : Int)) (j := (((newest st L (s + doneF dn c))).size : Int)) (by omega) (by omega) (by omega)
   refine ha_y 8 hF rfl rfl rfl (wn_none rfl) (.inr hSS) (yl_subsL (s := (newest st L (s + doneF dn c))) (i := (4 : Int)) hF rfl rfl rfl Try.underlying9 (by omega) (by omega)) ?_; clear hF; intro a hF
   refine ha_l 2 hF rfl rfl rfl (wn_none rfl) hSS (yl_load (fun _ h => h) hF rfl rfl 0 rfl ag9 rfl) ?_; clear hF; intro a hF
   have hz676 := subs_size (s := x) (i := ((doneF dn c * 8))) (j := ((((doneF dn c * 8)) + (4 : Int)))) (by omega) (by omega) (by omega)
   refine ha_y 6 hF rfl rfl rfl (wn_none rfl) (.inr hSS) (yl_subsLH (s := x) (i := ((doneF dn c * 8))) (j := ((((doneF dn c * 8)) + (4 : Int)))) hF rfl rfl rfl rfl Try.underlying9 (by omega) (by omega) (by omega)) ?_; clear hF; intro a hF
   have hz677 := cat_size (subs x ((doneF dn c * 8)) ((((doneF dn c * 8)) + (4 : Int)))) (subs (newest st L (s + doneF dn c)) (4 : Int) (((newest st L (s + doneF dn c))).size : Int))
   refine ha_y 9 hF rfl rfl rfl (wn_none rfl) (.inr hSS) (yl_bin hF rfl rfl rfl rfl (fun _ => run_catS (x := (subs x ((doneF dn c * 8)) ((((doneF dn c * 8)) + (4 : Int))))) (y := (subs (newest st L (s + doneF dn c)) (4 : Int) (((newest st L (s + doneF dn c))).size : Int))) (by omega))) ?_; clear hF; intro a hF
   have hz678 := cat_size (subs x 0 ((((doneF dn c)) * (8 : Int)))) ((subs x ((doneF dn c * 8)) ((((doneF dn c * 8)) + (4 : Int)))) ++ (subs (newest st L (s + doneF dn c)) (4 : Int) (((newest st L (s + doneF dn c))).size : Int)))
   refine ha_y 10 hF rfl rfl rfl (wn_none rfl) (.inr hSS) (yl_bin hF rfl rfl rfl rfl (fun _ => run_catS (x := (subs x 0 ((((doneF dn c)) * (8 : Int))))) (y := ((subs x ((doneF dn c * 8)) ((((doneF dn c * 8)) + (4 : Int)))) ++ (subs (newest st L (s + doneF dn c)) (4 : Int) (((newest st L (s + doneF dn c))).size : Int)))) (by omega))) ?_; clear hF; intro a hF
   refine ha_y 11 hF rfl rfl rfl (wn_none rfl) (.inr hSS) (yl_assign hF rfl rfl) ?_; clear hF; intro a hF
   refine ha_done (by kernel_rfl) ?_ _
   refine then_n ?_
   refine c_seq ?_
   refine c_seq ?_
   refine c_region ?_
   have hpt : ((subs x 0 ((((doneF dn c)) * (8 : Int)))) ++ ((subs x ((doneF dn c * 8)) ((((doneF dn c * 8)) + (4 : Int)))) ++ (subs (newest st L (s + doneF dn c)) (4 : Int) (((newest st L (s + doneF dn c))).size : Int)))) = partF st L s c x dn hf := part_1 (by assumption) (by omega); rw [hpt] at hF; have hps := part_size (dn := dn) (hf := hf) hd hs hx
   refine mvN hF rfl rfl rfl rfl rfl ?_; clear hF; intro a hF
   refine seq_yl hF (wn_none rfl) rfl rfl (yl_bin hF rfl rfl rfl rfl (fun _ => run_str_neq)) ?_; clear hF; intro a hF
   refine wpList_nil ?_
   refine then_n ?_
   refine c_cond hF rfl (fun hc679 => ?_) (fun hc679 => ?_)
   ·first | (replace hc679 := of_decide_eq_true hc679) | (replace hc679 := of_decide_eq_false (bnot_t hc679)) | (replace hc679 := bnot_t hc679) | skip
    try (have hc679x := hc679; simp only [okS, okI, okW, okP] at hc679x)
    refine c_region ?_
    have hpo := part_ok (dn := dn) (hf := hf) hd hs hx (by assumption); have hpb : ((partF st L s c x dn hf).size : Int) ≤ 1032 := by rw [hps]; split <;> omega
    refine seq_yl hF (wn_none rfl) rfl rfl (yl_loadK (rs := [_, _, _]) (fun _ h => h ▸ hS) hF rfl rfl 2 rfl ag43 sz43 rfl rfl) ?_; clear hF; intro a hF
    refine seq_yl hF (wn_none rfl) rfl rfl (yl_fieldAddr hF rfl rfl (fun w => by kernel_rfl : ∀ w, (Instr.fieldAt 45 (.pointer (some ⟨g669, 0, none⟩)) 2).run Try.prog w = .ok (.pointer (some ⟨g669, 2, none⟩)) w)) ?_; clear hF; intro a hF
    refine seq_yl hF (wn_none rfl) rfl rfl (yl_load (fun _ h => h ▸ hS) hF rfl rfl 1 rfl ag3 rfl) ?_; clear hF; intro a hF
    refine mvN hF rfl rfl rfl rfl rfl ?_; clear hF; intro a hF
    refine seq_yl hF (wn_none rfl) rfl rfl (yl_fieldAddr hF rfl rfl (fun w => by kernel_rfl : ∀ w, (Instr.fieldAt 45 (.pointer (some ⟨g669, 0, none⟩)) 5).run Try.prog w = .ok (.pointer (some ⟨g669, 5, none⟩)) w)) ?_; clear hF; intro a hF
    refine seq_yl hF (wn_none rfl) rfl rfl (yl_load (fun _ h => h ▸ hS) hF rfl rfl 1 rfl ag4 rfl) ?_; clear hF; intro a hF
    refine seq_wp (wn_none rfl) (wp_call (vs := [_, _, _, _]) hF rfl rfl rfl rfl cf42 (write_any st _ L (rm) (s) (partF st L s c x dn hf) fua _ (hS.rdRow 3 rfl) (by first | omega | (simp; done)) (by first | omega | (simp; done)) (by first | omega | (simp; done))) ?_)
    clear hF; rintro _ w ⟨st680, v681, Lq682, rm683, b684, rfl, hq685, hS1⟩ a hF
    replace hS := hS.callB hS1 rfl; clear hS1
    obtain ⟨Av681, cv681, rfl⟩ := hS.form 0 rfl
    have hq685b := writeF_bd hq685
    refine mvN hF rfl rfl rfl rfl rfl ?_; clear hF; intro a hF
    refine seq_yl hF (wn_none rfl) rfl rfl (yl_extract hF rfl rfl rfl) ?_; clear hF; intro a hF
    refine seq_yl hF (wn_none rfl) rfl rfl (yl_extract hF rfl rfl rfl) ?_; clear hF; intro a hF
    refine seq_wp (wn_none rfl) (wp_store (cs' := #[_, _, _]) hF hS rfl rfl rfl rfl 3 rfl sz43 (by simp [Value.cells, Value.oneCell']) (by simp [Value.cells]) rfl ?_)
    clear hF hS; intro a w hF hS
    refine wpList_nil ?_
    refine then_n ?_
    refine c_seq ?_
    refine c_region ?_
    refine seq_yl hF (wn_none rfl) rfl rfl (yl_loadK (rs := [_, _, _]) (fun _ h => h ▸ hS) hF rfl rfl 3 rfl ag43 sz43 rfl rfl) ?_; clear hF; intro a hF
    refine seq_wp (wn_none rfl) (wp_store (cs' := #[_, _, _]) hF hS rfl rfl rfl rfl 1 rfl sz43 (by simp [Value.cells, Value.oneCell']) (by simp [Value.cells]) rfl ?_)
    clear hF hS; intro a w hF hS
    refine wpList_nil ?_
    refine then_n ?_
    refine wp_ret ?_
    refine ret_c hF rfl (resC hS rfl 1 rfl ag43 sz43) ?_
    exact ⟨_, rfl, _, _, _, _, rfl, torn_yes (by assumption) hq685, (hS.subT 5 [0] (by decide) (by first | rfl | simp) (by simp) (by simp))⟩
   ·first | (replace hc679 := of_decide_eq_false hc679) | (replace hc679 := of_decide_eq_true (bnot_f hc679)) | (replace hc679 := bnot_f hc679) | skip
    try (have hc679x := hc679; simp only [okS, okI, okW, okP] at hc679x)
    refine wp_skip ?_
    refine then_n ?_
    refine c_seq ?_
    refine c_region ?_
    refine seq_yl hF (wn_none rfl) rfl rfl (yl_loadK (rs := [_, _, _]) (fun _ h => h ▸ hS) hF rfl rfl 2 rfl ag43 sz43 rfl rfl) ?_; clear hF; intro a hF
    refine seq_wp (wn_none rfl) (wp_store (cs' := #[_, _, _]) hF hS rfl rfl rfl rfl 0 rfl sz43 (by simp [Value.cells, Value.oneCell']) (by simp [Value.cells]) rfl ?_)
    clear hF hS; intro a w hF hS
    refine wpList_nil ?_
    refine then_n ?_
    refine wp_ret ?_
    refine ret_c hF rfl (resC hS rfl 0 rfl ag43 sz43) ?_
    exact ⟨_, rfl, _, _, _, _, rfl, torn_no (Decidable.not_not.1 (by assumption)), (hS.subT 4 [3] (by decide) (by first | rfl | simp) (by simp) (by simp))⟩
  ·first | (replace hc673 := of_decide_eq_false hc673) | (replace hc673 := of_decide_eq_true (bnot_f hc673)) | (replace hc673 := bnot_f hc673) | skip
   try (have hc673x := hc673; simp only [okS, okI, okW, okP] at hc673x)
   refine wp_skip ?_
   refine then_n ?_
   refine c_seq ?_
   refine c_seq ?_
   refine c_region ?_
   have hpt : (subs x 0 ((((doneF dn c)) * (8 : Int)))) = partF st L s c x dn hf := part_2 (fun h9 => by first | (obtain ⟨h7, h8⟩ := h9; omega) | (obtain ⟨h7, h8⟩ := h9; simp_all)); rw [hpt] at hF; have hps := part_size (dn := dn) (hf := hf) hd hs hx
   refine mvN hF rfl rfl rfl rfl rfl ?_; clear hF; intro a hF
   refine seq_yl hF (wn_none rfl) rfl rfl (yl_bin hF rfl rfl rfl rfl (fun _ => run_str_neq)) ?_; clear hF; intro a hF
   refine wpList_nil ?_
   refine then_n ?_
   refine c_cond hF rfl (fun hc686 => ?_) (fun hc686 => ?_)
   ·first | (replace hc686 := of_decide_eq_true hc686) | (replace hc686 := of_decide_eq_false (bnot_t hc686)) | (replace hc686 := bnot_t hc686) | skip
    try (have hc686x := hc686; simp only [okS, okI, okW, okP] at hc686x)
    refine c_region ?_
    have hpo := part_ok (dn := dn) (hf := hf) hd hs hx (by assumption); have hpb : ((partF st L s c x dn hf).size : Int) ≤ 1032 := by rw [hps]; split <;> omega
    refine seq_yl hF (wn_none rfl) rfl rfl (yl_loadK (rs := [_, _, _]) (fun _ h => h ▸ hS) hF rfl rfl 2 rfl ag43 sz43 rfl rfl) ?_; clear hF; intro a hF
    refine seq_yl hF (wn_none rfl) rfl rfl (yl_fieldAddr hF rfl rfl (fun w => by kernel_rfl : ∀ w, (Instr.fieldAt 45 (.pointer (some ⟨g669, 0, none⟩)) 2).run Try.prog w = .ok (.pointer (some ⟨g669, 2, none⟩)) w)) ?_; clear hF; intro a hF
    refine seq_yl hF (wn_none rfl) rfl rfl (yl_load (fun _ h => h ▸ hS) hF rfl rfl 1 rfl ag3 rfl) ?_; clear hF; intro a hF
    refine mvN hF rfl rfl rfl rfl rfl ?_; clear hF; intro a hF
    refine seq_yl hF (wn_none rfl) rfl rfl (yl_fieldAddr hF rfl rfl (fun w => by kernel_rfl : ∀ w, (Instr.fieldAt 45 (.pointer (some ⟨g669, 0, none⟩)) 5).run Try.prog w = .ok (.pointer (some ⟨g669, 5, none⟩)) w)) ?_; clear hF; intro a hF
    refine seq_yl hF (wn_none rfl) rfl rfl (yl_load (fun _ h => h ▸ hS) hF rfl rfl 1 rfl ag4 rfl) ?_; clear hF; intro a hF
    refine seq_wp (wn_none rfl) (wp_call (vs := [_, _, _, _]) hF rfl rfl rfl rfl cf42 (write_any st _ L (rm) (s) (partF st L s c x dn hf) fua _ (hS.rdRow 3 rfl) (by first | omega | (simp; done)) (by first | omega | (simp; done)) (by first | omega | (simp; done))) ?_)
    clear hF; rintro _ w ⟨st687, v688, Lq689, rm690, b691, rfl, hq692, hS1⟩ a hF
    replace hS := hS.callB hS1 rfl; clear hS1
    obtain ⟨Av688, cv688, rfl⟩ := hS.form 0 rfl
    have hq692b := writeF_bd hq692
    refine mvN hF rfl rfl rfl rfl rfl ?_; clear hF; intro a hF
    refine seq_yl hF (wn_none rfl) rfl rfl (yl_extract hF rfl rfl rfl) ?_; clear hF; intro a hF
    refine seq_yl hF (wn_none rfl) rfl rfl (yl_extract hF rfl rfl rfl) ?_; clear hF; intro a hF
    refine seq_wp (wn_none rfl) (wp_store (cs' := #[_, _, _]) hF hS rfl rfl rfl rfl 3 rfl sz43 (by simp [Value.cells, Value.oneCell']) (by simp [Value.cells]) rfl ?_)
    clear hF hS; intro a w hF hS
    refine wpList_nil ?_
    refine then_n ?_
    refine c_seq ?_
    refine c_region ?_
    refine seq_yl hF (wn_none rfl) rfl rfl (yl_loadK (rs := [_, _, _]) (fun _ h => h ▸ hS) hF rfl rfl 3 rfl ag43 sz43 rfl rfl) ?_; clear hF; intro a hF
    refine seq_wp (wn_none rfl) (wp_store (cs' := #[_, _, _]) hF hS rfl rfl rfl rfl 1 rfl sz43 (by simp [Value.cells, Value.oneCell']) (by simp [Value.cells]) rfl ?_)
    clear hF hS; intro a w hF hS
    refine wpList_nil ?_
    refine then_n ?_
    refine wp_ret ?_
    refine ret_c hF rfl (resC hS rfl 1 rfl ag43 sz43) ?_
    exact ⟨_, rfl, _, _, _, _, rfl, torn_yes (by assumption) hq692, (hS.subT 5 [0] (by decide) (by first | rfl | simp) (by simp) (by simp))⟩
   ·first | (replace hc686 := of_decide_eq_false hc686) | (replace hc686 := of_decide_eq_true (bnot_f hc686)) | (replace hc686 := bnot_f hc686) | skip
    try (have hc686x := hc686; simp only [okS, okI, okW, okP] at hc686x)
    refine wp_skip ?_
    refine then_n ?_
    refine c_seq ?_
    refine c_region ?_
    refine seq_yl hF (wn_none rfl) rfl rfl (yl_loadK (rs := [_, _, _]) (fun _ h => h ▸ hS) hF rfl rfl 2 rfl ag43 sz43 rfl rfl) ?_; clear hF; intro a hF
    refine seq_wp (wn_none rfl) (wp_store (cs' := #[_, _, _]) hF hS rfl rfl rfl rfl 0 rfl sz43 (by simp [Value.cells, Value.oneCell']) (by simp [Value.cells]) rfl ?_)
    clear hF hS; intro a w hF hS
    refine wpList_nil ?_
    refine then_n ?_
    refine wp_ret ?_
    refine ret_c hF rfl (resC hS rfl 0 rfl ag43 sz43) ?_
    exact ⟨_, rfl, _, _, _, _, rfl, torn_no (Decidable.not_not.1 (by assumption)), (hS.subT 4 [3] (by decide) (by first | rfl | simp) (by simp) (by simp))⟩
 ·first | (replace hc672 := of_decide_eq_false hc672) | (replace hc672 := of_decide_eq_true (bnot_f hc672)) | (replace hc672 := bnot_f hc672) | skip
  try (have hc672x := hc672; simp only [okS, okI, okW, okP] at hc672x)
  refine skF hF rfl rfl rfl rfl rfl rfl ?_; clear hF; intro a hF
  refine skF hF rfl rfl rfl rfl rfl rfl ?_; clear hF; intro a hF
  refine skF hF rfl rfl rfl rfl rfl rfl ?_; clear hF; intro a hF
  refine skF hF rfl rfl rfl rfl rfl rfl ?_; clear hF; intro a hF
  refine seq_yl hF (wn_none rfl) rfl rfl (pkF hF rfl rfl rfl) ?_; clear hF; intro a hF
  refine wpList_nil ?_
  refine then_n ?_
  refine c_cond_f hF rfl ?_
  refine wp_skip ?_
  refine then_n ?_
  refine c_seq ?_
  refine c_seq ?_
  refine c_region ?_
  have hpt : (subs x 0 ((((doneF dn c)) * (8 : Int)))) = partF st L s c x dn hf := part_2 (fun h9 => by first | (obtain ⟨h7, h8⟩ := h9; omega) | (obtain ⟨h7, h8⟩ := h9; simp_all)); rw [hpt] at hF; have hps := part_size (dn := dn) (hf := hf) hd hs hx
  refine mvN hF rfl rfl rfl rfl rfl ?_; clear hF; intro a hF
  refine seq_yl hF (wn_none rfl) rfl rfl (yl_bin hF rfl rfl rfl rfl (fun _ => run_str_neq)) ?_; clear hF; intro a hF
  refine wpList_nil ?_
  refine then_n ?_
  refine c_cond hF rfl (fun hc693 => ?_) (fun hc693 => ?_)
  ·first | (replace hc693 := of_decide_eq_true hc693) | (replace hc693 := of_decide_eq_false (bnot_t hc693)) | (replace hc693 := bnot_t hc693) | skip
   try (have hc693x := hc693; simp only [okS, okI, okW, okP] at hc693x)
   refine c_region ?_
   have hpo := part_ok (dn := dn) (hf := hf) hd hs hx (by assumption); have hpb : ((partF st L s c x dn hf).size : Int) ≤ 1032 := by rw [hps]; split <;> omega
   refine seq_yl hF (wn_none rfl) rfl rfl (yl_loadK (rs := [_, _, _]) (fun _ h => h ▸ hS) hF rfl rfl 2 rfl ag43 sz43 rfl rfl) ?_; clear hF; intro a hF
   refine seq_yl hF (wn_none rfl) rfl rfl (yl_fieldAddr hF rfl rfl (fun w => by kernel_rfl : ∀ w, (Instr.fieldAt 45 (.pointer (some ⟨g669, 0, none⟩)) 2).run Try.prog w = .ok (.pointer (some ⟨g669, 2, none⟩)) w)) ?_; clear hF; intro a hF
   refine seq_yl hF (wn_none rfl) rfl rfl (yl_load (fun _ h => h ▸ hS) hF rfl rfl 1 rfl ag3 rfl) ?_; clear hF; intro a hF
   refine mvN hF rfl rfl rfl rfl rfl ?_; clear hF; intro a hF
   refine seq_yl hF (wn_none rfl) rfl rfl (yl_fieldAddr hF rfl rfl (fun w => by kernel_rfl : ∀ w, (Instr.fieldAt 45 (.pointer (some ⟨g669, 0, none⟩)) 5).run Try.prog w = .ok (.pointer (some ⟨g669, 5, none⟩)) w)) ?_; clear hF; intro a hF
   refine seq_yl hF (wn_none rfl) rfl rfl (yl_load (fun _ h => h ▸ hS) hF rfl rfl 1 rfl ag4 rfl) ?_; clear hF; intro a hF
   refine seq_wp (wn_none rfl) (wp_call (vs := [_, _, _, _]) hF rfl rfl rfl rfl cf42 (write_any st _ L (rm) (s) (partF st L s c x dn hf) fua _ (hS.rdRow 3 rfl) (by first | omega | (simp; done)) (by first | omega | (simp; done)) (by first | omega | (simp; done))) ?_)
   clear hF; rintro _ w ⟨st694, v695, Lq696, rm697, b698, rfl, hq699, hS1⟩ a hF
   replace hS := hS.callB hS1 rfl; clear hS1
   obtain ⟨Av695, cv695, rfl⟩ := hS.form 0 rfl
   have hq699b := writeF_bd hq699
   refine mvN hF rfl rfl rfl rfl rfl ?_; clear hF; intro a hF
   refine seq_yl hF (wn_none rfl) rfl rfl (yl_extract hF rfl rfl rfl) ?_; clear hF; intro a hF
   refine seq_yl hF (wn_none rfl) rfl rfl (yl_extract hF rfl rfl rfl) ?_; clear hF; intro a hF
   refine seq_wp (wn_none rfl) (wp_store (cs' := #[_, _, _]) hF hS rfl rfl rfl rfl 3 rfl sz43 (by simp [Value.cells, Value.oneCell']) (by simp [Value.cells]) rfl ?_)
   clear hF hS; intro a w hF hS
   refine wpList_nil ?_
   refine then_n ?_
   refine c_seq ?_
   refine c_region ?_
   refine seq_yl hF (wn_none rfl) rfl rfl (yl_loadK (rs := [_, _, _]) (fun _ h => h ▸ hS) hF rfl rfl 3 rfl ag43 sz43 rfl rfl) ?_; clear hF; intro a hF
   refine seq_wp (wn_none rfl) (wp_store (cs' := #[_, _, _]) hF hS rfl rfl rfl rfl 1 rfl sz43 (by simp [Value.cells, Value.oneCell']) (by simp [Value.cells]) rfl ?_)
   clear hF hS; intro a w hF hS
   refine wpList_nil ?_
   refine then_n ?_
   refine wp_ret ?_
   refine ret_c hF rfl (resC hS rfl 1 rfl ag43 sz43) ?_
   exact ⟨_, rfl, _, _, _, _, rfl, torn_yes (by assumption) hq699, (hS.subT 5 [0] (by decide) (by first | rfl | simp) (by simp) (by simp))⟩
  ·first | (replace hc693 := of_decide_eq_false hc693) | (replace hc693 := of_decide_eq_true (bnot_f hc693)) | (replace hc693 := bnot_f hc693) | skip
   try (have hc693x := hc693; simp only [okS, okI, okW, okP] at hc693x)
   refine wp_skip ?_
   refine then_n ?_
   refine c_seq ?_
   refine c_region ?_
   refine seq_yl hF (wn_none rfl) rfl rfl (yl_loadK (rs := [_, _, _]) (fun _ h => h ▸ hS) hF rfl rfl 2 rfl ag43 sz43 rfl rfl) ?_; clear hF; intro a hF
   refine seq_wp (wn_none rfl) (wp_store (cs' := #[_, _, _]) hF hS rfl rfl rfl rfl 0 rfl sz43 (by simp [Value.cells, Value.oneCell']) (by simp [Value.cells]) rfl ?_)
   clear hF hS; intro a w hF hS
   refine wpList_nil ?_
   refine then_n ?_
   refine wp_ret ?_
   refine ret_c hF rfl (resC hS rfl 0 rfl ag43 sz43) ?_
   exact ⟨_, rfl, _, _, _, _, rfl, torn_no (Decidable.not_not.1 (by assumption)), (hS.subT 4 [3] (by decide) (by first | rfl | simp) (by simp) (by simp))⟩

end Go.Proofs.Ytkejcnhfbfgphaa

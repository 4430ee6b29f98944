/- walks, printed by wip/gen -/
import Derived.Test.YtlhcpeolkkadbaaWm
import Derived.Test.YtlhcpeolkkadbaaPE
import Derived.Test.YtlhcpeolkkadbaaWB
namespace Go.Proofs.Ytlhcpeolkkadbaa
open Go.RowKit
set_option linter.unusedVariables false
set_option linter.unusedSimpArgs false

set_option maxHeartbeats 1000000 in
set_option maxRecDepth 100000 in
theorem newest_any (av : Value) (A : List Int) (w0 : World) (hav : Rd w0 1 av (A).length (cells encI (A))) (hal : A.length ≤ 9223372036854775807) :
    Fn Try.prog 8 #[av] w0 (fun v w' => v = .bool true ∧ Sat w0 w' []) := by
  obtain ⟨Aav, cav, rfl⟩ := Rd.form hav
  refine c_enter (N := 58) (l := [_]) Try.func8 rfl rfl (fun a w hF hS => ?_)
  replace hS := hS.addRo hav
  refine c_seq ?_
  refine c_region ?_
  refine seq_yl hF (wn_none rfl) rfl rfl (yl_assign hF rfl rfl) ?_
  clear hF; intro a hF
  refine wpList_nil ?_
  refine then_n ?_
  refine c_seq ?_
  refine c_region ?_
  refine seq_yl hF (wn_none rfl) rfl rfl (yl_move hF rfl rfl) ?_
  clear hF; intro a hF
  refine seq_wp (wn_none rfl) (wp_call (vs := [_]) hF rfl rfl rfl rfl cf20 (drive_any _ A _ (hS.rdRo 0 rfl) (by first | omega | (simp; done) | (simp; omega))) ?_)
  clear hF; rintro _ w ⟨st628, v629, Lq630, rm631, rfl, hd632, hS1⟩ a hF
  replace hS := hS.callB hS1 rfl; clear hS1
  obtain ⟨Av629, cv629, rfl⟩ := hS.form 0 rfl
  obtain ⟨hd632d, hd632s⟩ := hd632; have hd632i := okD_I hd632d
  refine seq_wp (wn_none rfl) (wp_alloc (cs := #[_, _, _]) hF hS rfl rfl rfl zr24 rfl ?_)
  clear hF hS; intro a w g633 hF hS
  refine seq_wp (wn_none rfl) (wp_store (cs' := #[_, _, _]) hF hS rfl rfl rfl rfl 0 rfl sz24 (by simp [Value.cells, Value.oneCell']) (by simp [Value.cells]) rfl ?_)
  clear hF hS; intro a w hF hS
  refine wpList_nil ?_
  refine then_n ?_
  refine c_seq ?_
  refine c_region ?_
  refine seq_yl hF (wn_none rfl) rfl rfl (yl_loadK (rs := [_, _, _]) (fun _ h => h ▸ hS) hF rfl rfl 0 rfl ag24 sz24 rfl rfl) ?_
  clear hF; intro a hF
  refine seq_wp (wn_none rfl) (wp_call (vs := [_, _]) hF rfl rfl rfl rfl cf13 (csecF_any st628 _ Lq630 (rm631) _ ([] : List E59) _ (hS.rdRow 1 rfl) (by first | omega | (simp; done)) (by first | omega | (simp; done)) (rd_nil _ 2 0 enc59) (by first | omega | (simp; done))) ?_)
  clear hF; rintro _ w ⟨v634, M635, rfl, hM636, hS1⟩ a hF
  replace hS := hS.callB hS1 rfl; clear hS1
  obtain ⟨Av634, cv634, rfl⟩ := hS.form 0 rfl
  have hM636l := secF_len st628 Lq630 ([] : List E59) (rm631); rw [← hM636] at hM636l
  refine seq_yl hF (wn_none rfl) rfl rfl (yl_assign hF rfl rfl) ?_
  clear hF; intro a hF
  refine wpList_nil ?_
  refine then_n ?_
  refine c_seq ?_
  refine c_region ?_
  refine seq_wp (wn_none rfl) (wp_alloc (cs := #[_, _]) hF hS rfl rfl rfl zr28 rfl ?_)
  clear hF hS; intro a w g637 hF hS
  refine wpList_nil ?_
  refine then_n ?_
  refine c_seq ?_
  refine c_seq ?_
  refine c_region ?_
  refine seq_yl hF (wn_none rfl) rfl rfl (yl_assign hF rfl rfl) ?_
  clear hF; intro a hF
  refine wpList_nil ?_
  refine then_n ?_
  refine wp_block ?_
  replace hS := hS.addNil 3 1
  refine c_loop (fun m a w => ∃ (k : Nat) (AvP : Option Addr) (mv cvP : Nat), m = M635.length - k ∧ (k ≤ M635.length) ∧ Fr 58 a [(3, .pointer (some ⟨g633, 0, none⟩)), (4, .slice Av634 (M635).length cv634), (5, .pointer (some ⟨g637, 0, none⟩)), (6, .int .i64 ((k : Nat) : Int))] ∧ Sat w0 w (.ro 1 (.slice Aav (A).length cav) (A).length (cells encI (A)) :: .box g633 24 #[.string st628, .slice Av629 (Lq630).length cv629, .int .i64 (rm631)] :: .box g637 28 #[.slice AvP mv cvP, .slice none 0 0] :: .row 59 2 (.slice Av629 (Lq630).length cv629) (Lq630).length (cells enc59 (Lq630)) :: .row 3 1 (.slice Av634 (M635).length cv634) (M635).length (cells encI (M635)) :: .row 3 1 (.slice AvP mv cvP) ((lastP st628 Lq630 (M635.take k))).length (cells encI ((lastP st628 Lq630 (M635.take k)))) :: [])) (M635.length - 0) ?_ ?_
  · exact ⟨0, none, 0, 0, rfl, (Nat.zero_le _), hF.to [3, 4, 5, 6] rfl, (hS.sub [5, 3, 1, 4, 2, 0] (by decide) (by first | rfl | simp) (by simp))⟩
  · clear hF hS; try clear hSS
    clear a w; rintro m a w ⟨k, AvP, mv, cvP, rfl, hinv, hF, hS⟩
    have hk : k ≤ M635.length := hinv
    have hlpl := lastP_len (st := st628) (L := Lq630) hk
    refine c_seq ?_
    refine c_seq ?_
    refine c_region ?_
    refine seq_yl hF (wn_none rfl) rfl rfl (yl_move hF rfl rfl) ?_
    clear hF; intro a hF
    refine seq_yl hF (wn_none rfl) rfl rfl (yl_move hF rfl rfl) ?_
    clear hF; intro a hF
    refine seq_yl hF (wn_none rfl) rfl rfl (yl_len hF rfl rfl (fun _ => run_lenRd sl25 (hS.rdRow 4 rfl))) ?_
    clear hF; intro a hF
    refine seq_yl hF (wn_none rfl) rfl rfl (yl_bin hF rfl rfl rfl rfl (fun _ => run_lss)) ?_
    clear hF; intro a hF
    refine wpList_nil ?_
    refine then_n ?_
    refine c_cond hF rfl (fun hc638 => ?_) (fun hc638 => ?_)
    · first | (replace hc638 := of_decide_eq_true hc638) | (replace hc638 := of_decide_eq_false (bnot_t hc638)) | (replace hc638 := bnot_t hc638) | skip
      try (have hc638x := hc638; simp only [okS, okI, okW, okP] at hc638x)
      refine wp_skip ?_
      refine then_n ?_
      refine c_seq ?_
      refine wp_block ?_
      refine ha_startS hS [2, 1, 4] 13 (by kernel_rfl) ?_; clear hS; intro w hS
      have hSS := hS.sub [2, 1, 4] (by decide) rfl (by simp)
      refine ha_y 0 hF rfl rfl rfl (wn_none rfl) (.inr hSS) (yl_fieldAddr hF rfl rfl (fun w => by kernel_rfl : ∀ w, (Instr.fieldAt 28 (.pointer (some ⟨g637, 0, none⟩)) 0).run Try.prog w = .ok (.pointer (some ⟨g637, 0, none⟩)) w)) ?_
      clear hF; intro a hF
      refine ha_y 3 hF rfl rfl rfl (wn_none rfl) (.inr hSS) (yl_move hF rfl rfl) ?_
      clear hF; intro a hF
      refine ha_y 4 hF rfl rfl rfl (wn_none rfl) (.inr hSS) (yl_move hF rfl rfl) ?_
      clear hF; intro a hF
      have hlt_hx639 : k < (M635).length := by first | omega | (simp; done) | (simp; omega)
      obtain ⟨ad640, rfl⟩ := rd_some (hS.rdRow 4 rfl) hlt_hx639
      obtain ⟨x639, hx639⟩ := get_some hlt_hx639
      refine ha_y 5 hF rfl rfl rfl (wn_none rfl) (.inr hSS) (yl_indexAddr hF rfl rfl rfl (fun _ => run_idx' sl25 sz3 (hS.rdRow 4 rfl) hlt_hx639)) ?_
      clear hF; intro a hF
      refine ha_l 1 hF rfl rfl rfl (wn_none rfl) hSS (yl_load (fun _ h => h) hF rfl rfl 0 rfl ag25 rfl) ?_
      clear hF; intro a hF
      refine ha_l 2 hF rfl rfl rfl (wn_none rfl) hSS (yl_loadK (rs := [_, _, _]) (fun _ h => h) hF rfl rfl 1 rfl ag24 sz24 rfl rfl) ?_
      clear hF; intro a hF
      refine ha_l 6 hF rfl rfl rfl (wn_none rfl) hSS (yl_loadAt hF rfl rfl ag3 (fun _ h => rd_cell0 (enc := encI) (Sat.rdRow h 2 rfl) encI_len hx639 rfl rfl)) ?_
      clear hF; intro a hF
      have hsx := secF_at hd632d hM636 hx639
      refine ha_one 7 (by kernel_rfl) rfl (wn_none rfl) (wp_call (vs := [_, _]) hF rfl rfl rfl rfl cf30 (vers2_any st628 _ Lq630 (rm631) (x639) _ (hS.rdRow 3 rfl) (by first | omega | (simp; done)) (by first | omega | (simp; done))) ?_)
      clear hF; rintro _ w ⟨v641, M642, rfl, hM643, hS1⟩ a hF
      replace hS := hS.callB hS1 rfl; clear hS1
      obtain ⟨Av641, cv641, rfl⟩ := hS.form 0 rfl
      have hM643l := vers_len st628 Lq630 (rm631) (x639); rw [← hM643] at hM643l
      have hM6432 : M642 = versC st628 Lq630 (x639) := hM643.trans (if_pos ⟨(by assumption), hsx⟩)
      have hM643n := versC_len st628 Lq630 (x639); rw [← hM6432] at hM643n
      replace hSS := hS.sub [3, 2, 5] (by decide) rfl (by simp)
      refine ⟨.inr hSS, ?_⟩
      refine ha_y 8 hF rfl rfl rfl (wn_none rfl) (.inr hSS) (yl_len hF rfl rfl (fun _ => run_lenRd sl52 (hS.rdRow 0 rfl))) ?_
      clear hF; intro a hF
      refine ha_y 9 hF rfl rfl rfl (wn_none rfl) (.inr hSS) (yl_bin hF rfl rfl rfl rfl (fun _ => run_sub (by refine ⟨?_, ?_⟩ <;> omega))) ?_
      clear hF; intro a hF
      refine ha_one 10 (by kernel_rfl) rfl (wn_none rfl) (wp_bslice (parts := [(0, .tmp 28)]) (vs := [(0, _)]) (enc := encI) (e := 3) (size := 1) (cs := #[.int .i64 (((((M642).length : Nat) : Int) - (1 : Int)))]) hF hS rfl rfl rfl rfl ([(((((M642).length : Nat) : Int) - (1 : Int)))] : List Int) (fun w => by kernel_rfl) rfl rfl rfl (by decide) ?_)
      clear hF hS; intro a w v644 hF hS
      obtain ⟨Av644, cv644, rfl⟩ := hS.form 0 rfl
      replace hSS := hS.sub [4, 3, 6] (by decide) rfl (by simp)
      refine ⟨.inr hSS, ?_⟩
      refine ha_one 11 (by kernel_rfl) rfl (wn_none rfl) (wp_app (enc := encI) hF hS rfl rfl rfl rfl rfl 7 rfl sl25 inf3 rfl (by decide) (hS.rdRow 0 rfl) encI_one (by decide) (by first | omega | (simp only [List.length_append, List.length_cons, List.length_nil]; omega) | (simp; omega)) ?_)
      clear hF hS; intro a w v645 hF hS
      obtain ⟨Av645, cv645, rfl⟩ := hS.form 7 rfl
      replace hSS := hS.sub [4, 3, 6] (by decide) rfl (by simp)
      refine ⟨.inr hSS, ?_⟩
      refine ha_y 12 hF rfl rfl rfl (wn_none rfl) (.inr hSS) (yl_fieldAddr hF rfl rfl (fun w => by kernel_rfl : ∀ w, (Instr.fieldAt 28 (.pointer (some ⟨g637, 0, none⟩)) 0).run Try.prog w = .ok (.pointer (some ⟨g637, 0, none⟩)) w)) ?_
      clear hF; intro a hF
      refine ha_one 13 (by kernel_rfl) rfl (wn_none rfl) (wp_store (cs' := #[_, _]) hF hS rfl rfl rfl rfl 4 rfl sz25 (by simp [Value.cells, Value.oneCell']) (by simp [Value.cells]) rfl ?_)
      clear hF hS; intro a w hF hS
      refine ⟨.inl (by kernel_rfl), ?_⟩
      refine ha_done (by kernel_rfl) ?_ _
      refine inb_n ?_
      refine then_n ?_
      refine c_region ?_
      refine seq_yl hF (wn_none rfl) rfl rfl (yl_move hF rfl rfl) ?_
      clear hF; intro a hF
      refine seq_yl hF (wn_none rfl) rfl rfl (yl_bin hF rfl rfl rfl rfl (fun _ => run_inc (by omega))) ?_
      clear hF; intro a hF
      refine seq_yl hF (wn_none rfl) rfl rfl (yl_assign hF rfl rfl) ?_
      clear hF; intro a hF
      refine wpList_nil ?_
      refine then_n ?_
      have hlp : ((lastP st628 Lq630 (M635.take k)) ++ ([(((((M642).length : Nat) : Int) - (1 : Int)))] : List Int)) = (lastP st628 Lq630 (M635.take (k + 1))) := by rw [hM6432]; exact lastP_step hx639
      rw [hlp] at hS
      exact ⟨_, (by omega), k + 1, Av645, _, cv645, rfl, (show _ ≤ _ by omega), hF.to [3, 4, 5, 6] rfl, (hS.sub [2, 3, 4, 5, 6, 7] (by decide) (by first | rfl | simp) (by simp))⟩
    · first | (replace hc638 := of_decide_eq_false hc638) | (replace hc638 := of_decide_eq_true (bnot_f hc638)) | (replace hc638 := bnot_f hc638) | skip
      try (have hc638x := hc638; simp only [okS, okI, okW, okP] at hc638x)
      refine wp_exit ?_
      refine then_x ?_
      refine then_x ?_
      refine inb_x ?_
      refine then_n ?_
      refine c_seq ?_
      refine ha_startS hS [1] 9 (by kernel_rfl) ?_; clear hS; intro w hS
      have hSS := hS.sub [1] (by decide) rfl (by simp)
      refine ha_l 0 hF rfl rfl rfl (wn_none rfl) hSS (yl_loadK (rs := [_, _, _]) (fun _ h => h) hF rfl rfl 0 rfl ag24 sz24 rfl rfl) ?_
      clear hF; intro a hF
      refine ha_l 1 hF rfl rfl rfl (wn_none rfl) hSS (yl_loadK (rs := [_, _, _]) (fun _ h => h) hF rfl rfl 0 rfl ag24 sz24 rfl rfl) ?_
      clear hF; intro a hF
      refine ha_one 2 (by kernel_rfl) rfl (wn_none rfl) (wp_call (vs := [_]) hF rfl rfl rfl rfl cf27 (secs_any st628 _ _ _ (by omega)) ?_)
      clear hF; rintro _ w ⟨rfl, hS1⟩ a hF
      replace hS := hS.callB hS1 rfl; clear hS1
      replace hSS := hS.sub [1] (by decide) rfl (by simp)
      refine ⟨.inr hSS, ?_⟩
      refine ha_one 3 (by kernel_rfl) rfl (wn_none rfl) (wp_call (vs := [_, _, _]) hF rfl rfl rfl rfl cf31 (read2_any st628 _ Lq630 (rm631) (0 : Int) ((((st628).size : Int) / 8)) _ (hS.rdRow 3 rfl) (by first | omega | (simp; done)) (by first | omega | (simp; done))) ?_)
      clear hF; rintro _ w ⟨rfl, hS1⟩ a hF
      replace hS := hS.callB hS1 rfl; clear hS1
      have hz646 := readF_bd st628 Lq630 (rm631) (0 : Int) ((((st628).size : Int) / 8))
      replace hSS := hS.sub [1] (by decide) rfl (by simp)
      refine ⟨.inr hSS, ?_⟩
      refine ha_y 4 hF rfl rfl rfl (wn_none rfl) (.inr hSS) (yl_move hF rfl rfl) ?_
      clear hF; intro a hF
      refine ha_y 5 hF rfl rfl rfl (wn_none rfl) (.inr hSS) (yl_extract hF rfl rfl rfl) ?_
      clear hF; intro a hF
      refine ha_y 6 hF rfl rfl rfl (wn_none rfl) (.inr hSS) (yl_extract hF rfl rfl rfl) ?_
      clear hF; intro a hF
      refine ha_y 7 hF rfl rfl rfl (wn_none rfl) (.inr hSS) (yl_assign hF rfl rfl) ?_
      clear hF; intro a hF
      refine ha_y 8 hF rfl rfl rfl (wn_none rfl) (.inr hSS) (yl_assign hF rfl rfl) ?_
      clear hF; intro a hF
      refine ha_done (by kernel_rfl) ?_ _
      refine then_n ?_
      refine c_seq ?_
      refine ha_startS hS [1, 2] 20 (by kernel_rfl) ?_; clear hS; intro w hS
      have hSS := hS.sub [1, 2] (by decide) rfl (by simp)
      have hr0 := read_all (c := (((st628).size : Int) / 8)) hd632d rfl (by omega)
      refine ha_y 0 hF rfl rfl rfl (wn_none rfl) (.inr hSS) (yl_move hF rfl rfl) ?_
      clear hF; intro a hF
      refine ha_y 1 hF rfl rfl rfl (wn_none rfl) (.inr hSS) (yl_move hF rfl rfl) ?_
      clear hF; intro a hF
      replace hF := fr_set (b' := true) hF (by rw [hr0])
      refine ha_y 5 hF rfl rfl rfl (wn_t hF rfl rfl rfl rfl) (.inr hSS) (yl_move hF rfl rfl) ?_
      clear hF; intro a hF
      refine ha_l 2 hF rfl rfl rfl (wn_t hF rfl rfl rfl rfl) hSS (yl_loadK (rs := [_, _, _]) (fun _ h => h) hF rfl rfl 0 rfl ag24 sz24 rfl rfl) ?_
      clear hF; intro a hF
      refine ha_l 3 hF rfl rfl rfl (wn_t hF rfl rfl rfl rfl) hSS (yl_loadK (rs := [_, _]) (fun _ h => h) hF rfl rfl 1 rfl ag28 sz28 rfl rfl) ?_
      clear hF; intro a hF
      refine ha_one 4 (by kernel_rfl) rfl (wn_t hF rfl rfl rfl rfl) (wp_call (vs := [_, _, _]) hF rfl rfl rfl rfl cf15 (choose_any st628 _ Lq630 (rm631) _ ([] : List E59) _ (lastP st628 Lq630 (M635.take k)) _ ([] : List Bool) _ (hS.rdRow 3 rfl) (by first | omega | (simp; done)) (by first | omega | (simp; done)) (rd_nil _ 2 0 enc59) (by first | omega | (simp; done)) (hS.rdRow 5 rfl) (rd_nil _ 1 0 encB) (by first | omega | (simp; done)) (by first | omega | (simp; done))) ?_)
      clear hF; rintro _ w ⟨rfl, hS1⟩ a hF
      replace hS := hS.callB hS1 rfl; clear hS1
      have hz647 := choose_bd st628 Lq630 ([] : List E59) (rm631) (lastP st628 Lq630 (M635.take k)) ([] : List Bool)
      replace hSS := hS.sub [1, 2] (by decide) rfl (by simp)
      refine ⟨.inr hSS, ?_⟩
      refine ha_y 6 hF rfl rfl rfl (wn_t hF rfl rfl rfl rfl) (.inr hSS) (yl_bin hF rfl rfl rfl rfl (fun _ => run_str_eql)) ?_
      clear hF; intro a hF
      replace hF := fr_set (b' := true) hF (by rw [decide_eq_true_eq, hr0]; exact newest_choose hd632d hM636 (by omega))
      refine ha_y 7 hF rfl rfl rfl (wn_none rfl) (.inr hSS) (yl_pick (u := _) (v := undef) hF rfl rfl (fun _ => rfl) (fun h => by cases h)) ?_
      clear hF; intro a hF
      refine ha_y 8 hF rfl rfl rfl (wn_none rfl) (.inr hSS) (yl_move hF rfl rfl) ?_
      clear hF; intro a hF
      refine ha_y 10 hF rfl rfl rfl (wn_t hF rfl rfl rfl rfl) (.inr hSS) (yl_build (parts := []) (vs := []) (cs := [_, _]) hF bd28 rfl rfl rfl rfl) ?_
      clear hF; intro a hF
      refine ha_y 12 hF rfl rfl rfl (wn_t hF rfl rfl rfl rfl) (.inr hSS) (yl_fieldAddr hF rfl rfl (fun w => by kernel_rfl : ∀ w, (Instr.fieldAt 24 (.pointer (some ⟨g633, 0, none⟩)) 0).run Try.prog w = .ok (.pointer (some ⟨g633, 0, none⟩)) w)) ?_
      clear hF; intro a hF
      refine ha_l 9 hF rfl rfl rfl (wn_t hF rfl rfl rfl rfl) hSS (yl_loadK (rs := [_, _, _]) (fun _ h => h) hF rfl rfl 0 rfl ag24 sz24 rfl rfl) ?_
      clear hF; intro a hF
      refine ha_l 13 hF rfl rfl rfl (wn_t hF rfl rfl rfl rfl) hSS (yl_load (fun _ h => h) hF rfl rfl 0 rfl ag9 rfl) ?_
      clear hF; intro a hF
      refine ha_one 11 (by kernel_rfl) rfl (wn_t hF rfl rfl rfl rfl) (wp_call (vs := [_, _, _]) hF rfl rfl rfl rfl cf15 (choose_any st628 _ Lq630 (rm631) _ ([] : List E59) _ ([] : List Int) _ ([] : List Bool) _ (hS.rdRow 3 rfl) (by first | omega | (simp; done)) (by first | omega | (simp; done)) (rd_nil _ 2 0 enc59) (by first | omega | (simp; done)) (rd_nil _ 1 0 encI) (rd_nil _ 1 0 encB) (by first | omega | (simp; done)) (by first | omega | (simp; done))) ?_)
      clear hF; rintro _ w ⟨rfl, hS1⟩ a hF
      replace hS := hS.callB hS1 rfl; clear hS1
      have hz648 := choose_bd st628 Lq630 ([] : List E59) (rm631) ([] : List Int) ([] : List Bool)
      replace hSS := hS.sub [1, 2] (by decide) rfl (by simp)
      refine ⟨.inr hSS, ?_⟩
      refine ha_y 14 hF rfl rfl rfl (wn_t hF rfl rfl rfl rfl) (.inr hSS) (yl_bin hF rfl rfl rfl rfl (fun _ => run_str_eql)) ?_
      clear hF; intro a hF
      replace hF := fr_set (b' := true) hF (by rw [decide_eq_true_eq]; exact choose_none hd632d)
      refine ha_y 15 hF rfl rfl rfl (wn_none rfl) (.inr hSS) (yl_pick (u := _) (v := undef) hF rfl rfl (fun _ => rfl) (fun h => by cases h)) ?_
      clear hF; intro a hF
      refine ha_y 16 hF rfl rfl rfl (wn_none rfl) (.inr hSS) (yl_move hF rfl rfl) ?_
      clear hF; intro a hF
      refine ha_one 17 (by kernel_rfl) rfl (wn_t hF rfl rfl rfl rfl) (wp_call (vs := []) hF rfl rfl rfl rfl cf19 (awake_any _) ?_)
      clear hF; rintro _ w ⟨rfl, hS1⟩ a hF
      replace hS := hS.callB hS1 rfl; clear hS1
      replace hSS := hS.sub [1, 2] (by decide) rfl (by simp)
      refine ⟨.inr hSS, ?_⟩
      refine ha_y 18 hF rfl rfl rfl (wn_none rfl) (.inr hSS) (yl_pick (u := _) (v := undef) hF rfl rfl (fun _ => rfl) (fun h => by cases h)) ?_
      clear hF; intro a hF
      refine ha_y 19 hF rfl rfl rfl (wn_none rfl) (.inr hSS) (yl_assign hF rfl rfl) ?_
      clear hF; intro a hF
      refine ha_done (by kernel_rfl) ?_ _
      refine then_n ?_
      refine wp_ret ?_
      refine ret_t hF rfl rfl ?_
      exact ⟨_, rfl, rfl, (hS.sub [] (by decide) (by first | rfl | simp) (by simp))⟩

end Go.Proofs.Ytlhcpeolkkadbaa

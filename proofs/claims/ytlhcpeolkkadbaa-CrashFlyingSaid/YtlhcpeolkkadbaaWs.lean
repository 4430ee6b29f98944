/- walks, printed by wip/gen -/
import Derived.Test.YtlhcpeolkkadbaaWm
import Derived.Test.YtlhcpeolkkadbaaPE
import Derived.Test.YtlhcpeolkkadbaaW6
namespace Go.Proofs.Ytlhcpeolkkadbaa
open Go.RowKit
set_option linter.unusedVariables false
set_option linter.unusedSimpArgs false

set_option maxHeartbeats 1000000 in
set_option maxRecDepth 100000 in
theorem flyingL_any (av : Value) (A : List Int) (n1 n2 : Int) (w0 : World) (hav : Rd w0 1 av (A).length (cells encI (A))) (hal : A.length ≤ 9223372036854775807) :
    Fn Try.prog 10 #[av, .int .i64 n1, .int .i64 n2] w0 (fun v w' => v = .bool true ∧ Sat w0 w' []) := by
  obtain ⟨Aav, cav, rfl⟩ := Rd.form hav
  refine c_enter (N := 111) (l := [_, _, _]) Try.func10 rfl rfl (fun a w hF hS => ?_)
  replace hS := hS.addRo hav
  refine c_seq ?_
  refine c_region ?_
  refine seq_yl hF (wn_none rfl) rfl rfl (yl_assign hF rfl rfl) ?_
  clear hF; intro a hF
  refine wpList_nil ?_
  refine then_n ?_
  refine c_seq ?_
  refine c_region ?_
  refine seq_yl hF (wn_none rfl) rfl rfl (yl_move hF rfl rfl) ?_
  clear hF; intro a hF
  refine seq_wp (wn_none rfl) (wp_call (vs := [_]) hF rfl rfl rfl rfl cf20 (drive_any _ A _ (hS.rdRo 0 rfl) (by first | omega | (simp; done) | (simp; omega))) ?_)
  clear hF; rintro _ w ⟨st768, v769, Lq770, rm771, rfl, hd772, hS1⟩ a hF
  replace hS := hS.callB hS1 rfl; clear hS1
  obtain ⟨Av769, cv769, rfl⟩ := hS.form 0 rfl
  obtain ⟨hd772d, hd772s⟩ := hd772; have hd772i := okD_I hd772d
  refine seq_wp (wn_none rfl) (wp_call (vs := [_]) hF rfl rfl rfl rfl cf28 (flush2_any st768 _ Lq770 (rm771) _ (hS.rdRow 0 rfl) (by first | omega | (simp; done)) (by first | omega | (simp; done))) ?_)
  clear hF; rintro _ w ⟨st773, rm774, v775, rfl, hq776, hE777, hS1⟩ a hF
  replace hS := hS.callB hS1 rfl; clear hS1
  have hq776b := flushF_bd hq776; replace hS := hS.addRo (hE777.rd enc59 2 _); obtain ⟨Av775, cv775, rfl⟩ := (hE777.rd enc59 2 w).form
  refine seq_wp (wn_none rfl) (wp_alloc (cs := #[_, _, _]) hF hS rfl rfl rfl zr24 rfl ?_)
  clear hF hS; intro a w g778 hF hS
  refine seq_wp (wn_none rfl) (wp_store (cs' := #[_, _, _]) hF hS rfl rfl rfl rfl 0 rfl sz24 (by simp [Value.cells, Value.oneCell']) (by simp [Value.cells]) rfl ?_)
  clear hF hS; intro a w hF hS
  refine wpList_nil ?_
  refine then_n ?_
  refine c_seq ?_
  refine c_region ?_
  have hdf := (okD_flush hd772d hq776).1; have hfz := (okD_flush hd772d hq776).2
  refine seq_yl hF (wn_none rfl) rfl rfl (yl_move hF rfl rfl) ?_
  clear hF; intro a hF
  refine seq_yl hF (wn_none rfl) rfl rfl (yl_loadK (rs := [_, _, _]) (fun _ h => h ▸ hS) hF rfl rfl 0 rfl ag24 sz24 rfl rfl) ?_
  clear hF; intro a hF
  refine seq_wp (wn_none rfl) (wp_call (vs := [_]) hF rfl rfl rfl rfl cf27 (secs_any st773 _ _ _ (by omega)) ?_)
  clear hF; rintro _ w ⟨rfl, hS1⟩ a hF
  replace hS := hS.callB hS1 rfl; clear hS1
  have hr779 := rnd_bounds (n1) ((((st773).size : Int) / 8)) (by omega)
  refine seq_wp (wn_none rfl) (wp_call (vs := [_, _]) hF rfl rfl rfl rfl cf24 (round_any (n1) ((((st773).size : Int) / 8)) _ (by omega)) ?_)
  clear hF; rintro _ w ⟨rfl, hS1⟩ a hF
  replace hS := hS.callB hS1 rfl; clear hS1
  refine seq_yl hF (wn_none rfl) rfl rfl (yl_assign hF rfl rfl) ?_
  clear hF; intro a hF
  refine wpList_nil ?_
  refine then_n ?_
  refine c_seq ?_
  refine c_region ?_
  refine seq_yl hF (wn_none rfl) rfl rfl (yl_move hF rfl rfl) ?_
  clear hF; intro a hF
  refine seq_yl hF (wn_none rfl) rfl rfl (yl_move hF rfl rfl) ?_
  clear hF; intro a hF
  refine seq_wp (wn_none rfl) (wp_call (vs := [_, _]) hF rfl rfl rfl rfl cf25 (data_any (n2) (1 : Int) _ (by omega)) ?_)
  clear hF; rintro _ w ⟨rfl, hS1⟩ a hF
  replace hS := hS.callB hS1 rfl; clear hS1
  have hz780 := dataF_size (n2) (1 : Int)
  refine seq_yl hF (wn_none rfl) rfl rfl (yl_build (parts := [(0, .tmp 26), (1, .tmp 28)]) (vs := [(0, _), (1, _)]) (cs := [_, _]) hF bd59 rfl rfl rfl rfl) ?_
  clear hF; intro a hF
  refine seq_wp (wn_none rfl) (wp_bslice (parts := [(0, .tmp 29)]) (vs := [(0, _)]) (enc := enc59) (e := 59) (size := 2) (cs := #[.int .i64 ((rnd (n1) ((((st773).size : Int) / 8)))), .string (dataF (n2) (1 : Int))]) hF hS rfl rfl rfl rfl ([(E59.mk ((rnd (n1) ((((st773).size : Int) / 8)))) (dataF (n2) (1 : Int)))] : List E59) (fun w => by kernel_rfl) rfl rfl rfl (by decide) ?_)
  clear hF hS; intro a w v781 hF hS
  obtain ⟨Av781, cv781, rfl⟩ := hS.form 0 rfl
  refine seq_yl hF (wn_none rfl) rfl rfl (yl_assign hF rfl rfl) ?_
  clear hF; intro a hF
  refine wpList_nil ?_
  refine then_n ?_
  refine c_seq ?_
  refine c_region ?_
  have hsx : okS (st773.size : Int) ((rnd (n1) ((((st773).size : Int) / 8)))) 1 := (by unfold okS okI; omega); have hoz := sec_size hsx
  refine seq_yl hF (wn_none rfl) rfl rfl (yl_fieldAddr hF rfl rfl (fun w => by kernel_rfl : ∀ w, (Instr.fieldAt 24 (.pointer (some ⟨g778, 0, none⟩)) 0).run Try.prog w = .ok (.pointer (some ⟨g778, 0, none⟩)) w)) ?_
  clear hF; intro a hF
  refine seq_yl hF (wn_none rfl) rfl rfl (yl_load (fun _ h => h ▸ hS) hF rfl rfl 1 rfl ag9 rfl) ?_
  clear hF; intro a hF
  refine seq_yl hF (wn_none rfl) rfl rfl (yl_move hF rfl rfl) ?_
  clear hF; intro a hF
  refine seq_wp (wn_none rfl) (wp_call (vs := [_, _, _]) hF rfl rfl rfl rfl cf26 (imRead2_any st773 ((rnd (n1) ((((st773).size : Int) / 8)))) (1 : Int) _ (by omega)) ?_)
  clear hF; rintro _ w ⟨xs782, e783, rfl, hsp784, hS1⟩ a hF
  replace hS := hS.callB hS1 rfl; clear hS1
  have hsp784z := fun h9 : okS ((st773).size : Int) ((rnd (n1) ((((st773).size : Int) / 8)))) (1 : Int) => subs_size (s := st773) (i := ((rnd (n1) ((((st773).size : Int) / 8)))) * 8) (j := (((rnd (n1) ((((st773).size : Int) / 8)))) + (1 : Int)) * 8) (by unfold okS at h9; omega) (by unfold okS at h9; omega) (by unfold okS okI at h9; omega)
  obtain ⟨hk785, rfl, rfl⟩ := hsp784.resolve_right (fun h9 => h9.1 (hsx))
  try (have hk785x := hk785; simp only [okS, okI, okW, okP] at hk785x)
  refine seq_yl hF (wn_none rfl) rfl rfl (yl_move hF rfl rfl) ?_
  clear hF; intro a hF
  refine seq_yl hF (wn_none rfl) rfl rfl (yl_extract hF rfl rfl rfl) ?_
  clear hF; intro a hF
  refine seq_yl hF (wn_none rfl) rfl rfl (yl_extract hF rfl rfl rfl) ?_
  clear hF; intro a hF
  refine seq_yl hF (wn_none rfl) rfl rfl (yl_assign hF rfl rfl) ?_
  clear hF; intro a hF
  refine seq_yl hF (wn_none rfl) rfl rfl (yl_assign hF rfl rfl) ?_
  clear hF; intro a hF
  refine wpList_nil ?_
  refine then_n ?_
  refine c_seq ?_
  refine ha_startS hS [1] 13 (by kernel_rfl) ?_; clear hS; intro w hS
  have hSS := hS.sub [1] (by decide) rfl (by simp)
  refine ha_y 0 hF rfl rfl rfl (wn_none rfl) (.inr hSS) (yl_fieldAddr hF rfl rfl (fun w => by kernel_rfl : ∀ w, (Instr.fieldAt 24 (.pointer (some ⟨g778, 0, none⟩)) 0).run Try.prog w = .ok (.pointer (some ⟨g778, 0, none⟩)) w)) ?_
  clear hF; intro a hF
  refine ha_y 2 hF rfl rfl rfl (wn_none rfl) (.inr hSS) (yl_move hF rfl rfl) ?_
  clear hF; intro a hF
  refine ha_y 3 hF rfl rfl rfl (wn_none rfl) (.inr hSS) (yl_move hF rfl rfl) ?_
  clear hF; intro a hF
  refine ha_y 5 hF rfl rfl rfl (wn_none rfl) (.inr hSS) (yl_move hF rfl rfl) ?_
  clear hF; intro a hF
  refine ha_l 1 hF rfl rfl rfl (wn_none rfl) hSS (yl_load (fun _ h => h) hF rfl rfl 0 rfl ag9 rfl) ?_
  clear hF; intro a hF
  refine ha_one 4 (by kernel_rfl) rfl (wn_none rfl) (wp_call (vs := [_, _]) hF rfl rfl rfl rfl cf25 (data_any (n2) (1 : Int) _ (by omega)) ?_)
  clear hF; rintro _ w ⟨rfl, hS1⟩ a hF
  replace hS := hS.callB hS1 rfl; clear hS1
  have hz786 := dataF_size (n2) (1 : Int)
  replace hSS := hS.sub [1] (by decide) rfl (by simp)
  refine ⟨.inr hSS, ?_⟩
  refine ha_one 6 (by kernel_rfl) rfl (wn_none rfl) (wp_call (vs := [_, _]) hF rfl rfl rfl rfl cf33 (torn2_any (dataF (n2) (1 : Int)) (subs st773 (((rnd (n1) ((((st773).size : Int) / 8)))) * 8) ((((rnd (n1) ((((st773).size : Int) / 8)))) + (1 : Int)) * 8)) _ (by omega) (by omega)) ?_)
  clear hF; rintro _ w ⟨rfl, hS1⟩ a hF
  replace hS := hS.callB hS1 rfl; clear hS1
  have htz787 := torn_size (a := (dataF (n2) (1 : Int))) (b := (subs st773 (((rnd (n1) ((((st773).size : Int) / 8)))) * 8) ((((rnd (n1) ((((st773).size : Int) / 8)))) + (1 : Int)) * 8))) (by omega) (by omega)
  replace hSS := hS.sub [1] (by decide) rfl (by simp)
  refine ⟨.inr hSS, ?_⟩
  refine ha_one 7 (by kernel_rfl) rfl (wn_none rfl) (wp_call (vs := [_, _, _]) hF rfl rfl rfl rfl cf23 (imWrite2_any st773 ((rnd (n1) ((((st773).size : Int) / 8)))) (tornF (dataF (n2) (1 : Int)) (subs st773 (((rnd (n1) ((((st773).size : Int) / 8)))) * 8) ((((rnd (n1) ((((st773).size : Int) / 8)))) + (1 : Int)) * 8))) _ (by omega) (by omega)) ?_)
  clear hF; rintro _ w ⟨xs788, e789, rfl, hsp790, hS1⟩ a hF
  replace hS := hS.callB hS1 rfl; clear hS1
  have hsp790z := fun h9 : okW ((st773).size : Int) ((rnd (n1) ((((st773).size : Int) / 8)))) (((tornF (dataF (n2) (1 : Int)) (subs st773 (((rnd (n1) ((((st773).size : Int) / 8)))) * 8) ((((rnd (n1) ((((st773).size : Int) / 8)))) + (1 : Int)) * 8)))).size : Int) => wim_size (im := st773) (s := ((rnd (n1) ((((st773).size : Int) / 8))))) (x := (tornF (dataF (n2) (1 : Int)) (subs st773 (((rnd (n1) ((((st773).size : Int) / 8)))) * 8) ((((rnd (n1) ((((st773).size : Int) / 8)))) + (1 : Int)) * 8)))) h9
  obtain ⟨hk791, rfl, rfl⟩ := hsp790.resolve_right (fun h9 => h9.1 (okW_of hsx (by omega)))
  try (have hk791x := hk791; simp only [okS, okI, okW, okP] at hk791x)
  replace hSS := hS.sub [1] (by decide) rfl (by simp)
  refine ⟨.inr hSS, ?_⟩
  refine ha_y 8 hF rfl rfl rfl (wn_none rfl) (.inr hSS) (yl_move hF rfl rfl) ?_
  clear hF; intro a hF
  refine ha_y 9 hF rfl rfl rfl (wn_none rfl) (.inr hSS) (yl_extract hF rfl rfl rfl) ?_
  clear hF; intro a hF
  refine ha_y 10 hF rfl rfl rfl (wn_none rfl) (.inr hSS) (yl_extract hF rfl rfl rfl) ?_
  clear hF; intro a hF
  refine ha_y 11 hF rfl rfl rfl (wn_none rfl) (.inr hSS) (yl_assign hF rfl rfl) ?_
  clear hF; intro a hF
  refine ha_y 12 hF rfl rfl rfl (wn_none rfl) (.inr hSS) (yl_assign hF rfl rfl) ?_
  clear hF; intro a hF
  refine ha_done (by kernel_rfl) ?_ _
  refine then_n ?_
  refine c_seq ?_
  refine ha_startS hS [1] 11 (by kernel_rfl) ?_; clear hS; intro w hS
  have hSS := hS.sub [1] (by decide) rfl (by simp)
  have hwzq792 := hsp790z hk791
  refine ha_y 0 hF rfl rfl rfl (wn_none rfl) (.inr hSS) (yl_fieldAddr hF rfl rfl (fun w => by kernel_rfl : ∀ w, (Instr.fieldAt 24 (.pointer (some ⟨g778, 0, none⟩)) 0).run Try.prog w = .ok (.pointer (some ⟨g778, 0, none⟩)) w)) ?_
  clear hF; intro a hF
  refine ha_y 2 hF rfl rfl rfl (wn_none rfl) (.inr hSS) (yl_move hF rfl rfl) ?_
  clear hF; intro a hF
  refine ha_y 3 hF rfl rfl rfl (wn_none rfl) (.inr hSS) (yl_move hF rfl rfl) ?_
  clear hF; intro a hF
  refine ha_l 1 hF rfl rfl rfl (wn_none rfl) hSS (yl_load (fun _ h => h) hF rfl rfl 0 rfl ag9 rfl) ?_
  clear hF; intro a hF
  refine ha_one 4 (by kernel_rfl) rfl (wn_none rfl) (wp_call (vs := [_, _]) hF rfl rfl rfl rfl cf25 (data_any (n2) (1 : Int) _ (by omega)) ?_)
  clear hF; rintro _ w ⟨rfl, hS1⟩ a hF
  replace hS := hS.callB hS1 rfl; clear hS1
  have hz793 := dataF_size (n2) (1 : Int)
  replace hSS := hS.sub [1] (by decide) rfl (by simp)
  refine ⟨.inr hSS, ?_⟩
  refine ha_one 5 (by kernel_rfl) rfl (wn_none rfl) (wp_call (vs := [_, _, _]) hF rfl rfl rfl rfl cf23 (imWrite2_any st773 ((rnd (n1) ((((st773).size : Int) / 8)))) (dataF (n2) (1 : Int)) _ (by omega) (by omega)) ?_)
  clear hF; rintro _ w ⟨xs794, e795, rfl, hsp796, hS1⟩ a hF
  replace hS := hS.callB hS1 rfl; clear hS1
  have hsp796z := fun h9 : okW ((st773).size : Int) ((rnd (n1) ((((st773).size : Int) / 8)))) (((dataF (n2) (1 : Int))).size : Int) => wim_size (im := st773) (s := ((rnd (n1) ((((st773).size : Int) / 8))))) (x := (dataF (n2) (1 : Int))) h9
  obtain ⟨hk797, rfl, rfl⟩ := hsp796.resolve_right (fun h9 => h9.1 (okW_of hsx (by omega)))
  try (have hk797x := hk797; simp only [okS, okI, okW, okP] at hk797x)
  replace hSS := hS.sub [1] (by decide) rfl (by simp)
  refine ⟨.inr hSS, ?_⟩
  refine ha_y 6 hF rfl rfl rfl (wn_none rfl) (.inr hSS) (yl_move hF rfl rfl) ?_
  clear hF; intro a hF
  refine ha_y 7 hF rfl rfl rfl (wn_none rfl) (.inr hSS) (yl_extract hF rfl rfl rfl) ?_
  clear hF; intro a hF
  refine ha_y 8 hF rfl rfl rfl (wn_none rfl) (.inr hSS) (yl_extract hF rfl rfl rfl) ?_
  clear hF; intro a hF
  refine ha_y 9 hF rfl rfl rfl (wn_none rfl) (.inr hSS) (yl_assign hF rfl rfl) ?_
  clear hF; intro a hF
  refine ha_y 10 hF rfl rfl rfl (wn_none rfl) (.inr hSS) (yl_assign hF rfl rfl) ?_
  clear hF; intro a hF
  refine ha_done (by kernel_rfl) ?_ _
  refine then_n ?_
  refine c_seq ?_
  refine ha_startS hS [1] 13 (by kernel_rfl) ?_; clear hS; intro w hS
  have hSS := hS.sub [1] (by decide) rfl (by simp)
  have hwzq798 := hsp796z hk797
  refine ha_y 0 hF rfl rfl rfl (wn_none rfl) (.inr hSS) (yl_fieldAddr hF rfl rfl (fun w => by kernel_rfl : ∀ w, (Instr.fieldAt 24 (.pointer (some ⟨g778, 0, none⟩)) 0).run Try.prog w = .ok (.pointer (some ⟨g778, 0, none⟩)) w)) ?_
  clear hF; intro a hF
  refine ha_y 2 hF rfl rfl rfl (wn_none rfl) (.inr hSS) (yl_move hF rfl rfl) ?_
  clear hF; intro a hF
  refine ha_y 3 hF rfl rfl rfl (wn_none rfl) (.inr hSS) (yl_move hF rfl rfl) ?_
  clear hF; intro a hF
  refine ha_y 4 hF rfl rfl rfl (wn_none rfl) (.inr hSS) (yl_move hF rfl rfl) ?_
  clear hF; intro a hF
  refine ha_l 1 hF rfl rfl rfl (wn_none rfl) hSS (yl_load (fun _ h => h) hF rfl rfl 0 rfl ag9 rfl) ?_
  clear hF; intro a hF
  refine ha_one 5 (by kernel_rfl) rfl (wn_none rfl) (wp_call (vs := [_, _]) hF rfl rfl rfl rfl cf25 (data_any (n2) (1 : Int) _ (by omega)) ?_)
  clear hF; rintro _ w ⟨rfl, hS1⟩ a hF
  replace hS := hS.callB hS1 rfl; clear hS1
  have hz799 := dataF_size (n2) (1 : Int)
  replace hSS := hS.sub [1] (by decide) rfl (by simp)
  refine ⟨.inr hSS, ?_⟩
  refine ha_one 6 (by kernel_rfl) rfl (wn_none rfl) (wp_call (vs := [_, _]) hF rfl rfl rfl rfl cf33 (torn2_any (subs st773 (((rnd (n1) ((((st773).size : Int) / 8)))) * 8) ((((rnd (n1) ((((st773).size : Int) / 8)))) + (1 : Int)) * 8)) (dataF (n2) (1 : Int)) _ (by omega) (by omega)) ?_)
  clear hF; rintro _ w ⟨rfl, hS1⟩ a hF
  replace hS := hS.callB hS1 rfl; clear hS1
  have htz800 := torn_size (a := (subs st773 (((rnd (n1) ((((st773).size : Int) / 8)))) * 8) ((((rnd (n1) ((((st773).size : Int) / 8)))) + (1 : Int)) * 8))) (b := (dataF (n2) (1 : Int))) (by omega) (by omega)
  replace hSS := hS.sub [1] (by decide) rfl (by simp)
  refine ⟨.inr hSS, ?_⟩
  refine ha_one 7 (by kernel_rfl) rfl (wn_none rfl) (wp_call (vs := [_, _, _]) hF rfl rfl rfl rfl cf23 (imWrite2_any st773 ((rnd (n1) ((((st773).size : Int) / 8)))) (tornF (subs st773 (((rnd (n1) ((((st773).size : Int) / 8)))) * 8) ((((rnd (n1) ((((st773).size : Int) / 8)))) + (1 : Int)) * 8)) (dataF (n2) (1 : Int))) _ (by omega) (by omega)) ?_)
  clear hF; rintro _ w ⟨xs801, e802, rfl, hsp803, hS1⟩ a hF
  replace hS := hS.callB hS1 rfl; clear hS1
  have hsp803z := fun h9 : okW ((st773).size : Int) ((rnd (n1) ((((st773).size : Int) / 8)))) (((tornF (subs st773 (((rnd (n1) ((((st773).size : Int) / 8)))) * 8) ((((rnd (n1) ((((st773).size : Int) / 8)))) + (1 : Int)) * 8)) (dataF (n2) (1 : Int)))).size : Int) => wim_size (im := st773) (s := ((rnd (n1) ((((st773).size : Int) / 8))))) (x := (tornF (subs st773 (((rnd (n1) ((((st773).size : Int) / 8)))) * 8) ((((rnd (n1) ((((st773).size : Int) / 8)))) + (1 : Int)) * 8)) (dataF (n2) (1 : Int)))) h9
  obtain ⟨hk804, rfl, rfl⟩ := hsp803.resolve_right (fun h9 => h9.1 (okW_of hsx (by omega)))
  try (have hk804x := hk804; simp only [okS, okI, okW, okP] at hk804x)
  replace hSS := hS.sub [1] (by decide) rfl (by simp)
  refine ⟨.inr hSS, ?_⟩
  refine ha_y 8 hF rfl rfl rfl (wn_none rfl) (.inr hSS) (yl_move hF rfl rfl) ?_
  clear hF; intro a hF
  refine ha_y 9 hF rfl rfl rfl (wn_none rfl) (.inr hSS) (yl_extract hF rfl rfl rfl) ?_
  clear hF; intro a hF
  refine ha_y 10 hF rfl rfl rfl (wn_none rfl) (.inr hSS) (yl_extract hF rfl rfl rfl) ?_
  clear hF; intro a hF
  refine ha_y 11 hF rfl rfl rfl (wn_none rfl) (.inr hSS) (yl_assign hF rfl rfl) ?_
  clear hF; intro a hF
  refine ha_y 12 hF rfl rfl rfl (wn_none rfl) (.inr hSS) (yl_assign hF rfl rfl) ?_
  clear hF; intro a hF
  refine ha_done (by kernel_rfl) ?_ _
  refine then_n ?_
  refine c_seq ?_
  refine c_region ?_
  have hwzq805 := hsp803z hk804
  refine seq_yl hF (wn_none rfl) rfl rfl (yl_move hF rfl rfl) ?_
  clear hF; intro a hF
  refine seq_yl hF (wn_none rfl) rfl rfl (yl_fieldAddr hF rfl rfl (fun w => by kernel_rfl : ∀ w, (Instr.fieldAt 24 (.pointer (some ⟨g778, 0, none⟩)) 0).run Try.prog w = .ok (.pointer (some ⟨g778, 0, none⟩)) w)) ?_
  clear hF; intro a hF
  refine seq_yl hF (wn_none rfl) rfl rfl (yl_load (fun _ h => h ▸ hS) hF rfl rfl 1 rfl ag9 rfl) ?_
  clear hF; intro a hF
  refine seq_yl hF (wn_none rfl) rfl rfl (yl_bin hF rfl rfl rfl rfl (fun _ => run_str_eql)) ?_
  clear hF; intro a hF
  refine seq_yl hF (wn_none rfl) rfl rfl (yl_move hF rfl rfl) ?_
  clear hF; intro a hF
  refine fr_split hF (fun hc806 hF => ?_) (fun hc806 hF => ?_)
  · first | (replace hc806 := of_decide_eq_true hc806) | (replace hc806 := of_decide_eq_false (bnot_t hc806)) | (replace hc806 := bnot_t hc806) | skip
    try (have hc806x := hc806; simp only [okS, okI, okW, okP] at hc806x)
    refine seq_skip hF (wn_f hF rfl rfl rfl rfl) rfl rfl ?_
    clear hF; intro a hF
    refine seq_skip hF (wn_f hF rfl rfl rfl rfl) rfl rfl ?_
    clear hF; intro a hF
    refine seq_skip hF (wn_f hF rfl rfl rfl rfl) rfl rfl ?_
    clear hF; intro a hF
    refine seq_yl hF (wn_none rfl) rfl rfl (yl_pick (u := _) (v := undef) hF rfl rfl (fun _ => rfl) (fun h => by cases h)) ?_
    clear hF; intro a hF
    refine seq_yl hF (wn_none rfl) rfl rfl (yl_move hF rfl rfl) ?_
    clear hF; intro a hF
    refine seq_skip hF (wn_f hF rfl rfl rfl rfl) rfl rfl ?_
    clear hF; intro a hF
    refine seq_skip hF (wn_f hF rfl rfl rfl rfl) rfl rfl ?_
    clear hF; intro a hF
    refine seq_skip hF (wn_f hF rfl rfl rfl rfl) rfl rfl ?_
    clear hF; intro a hF
    refine seq_yl hF (wn_none rfl) rfl rfl (yl_pick (u := _) (v := undef) hF rfl rfl (fun _ => rfl) (fun h => by cases h)) ?_
    clear hF; intro a hF
    refine seq_yl hF (wn_none rfl) rfl rfl (yl_assign hF rfl rfl) ?_
    clear hF; intro a hF
    refine wpList_nil ?_
    refine then_n ?_
    refine c_seq ?_
    refine c_region ?_
    refine seq_yl hF (wn_none rfl) rfl rfl (yl_loadK (rs := [_, _, _]) (fun _ h => h ▸ hS) hF rfl rfl 1 rfl ag24 sz24 rfl rfl) ?_
    clear hF; intro a hF
    refine seq_yl hF (wn_none rfl) rfl rfl (yl_move hF rfl rfl) ?_
    clear hF; intro a hF
    refine seq_yl hF (wn_none rfl) rfl rfl (yl_fieldAddr hF rfl rfl (fun w => by kernel_rfl : ∀ w, (Instr.fieldAt 24 (.pointer (some ⟨g778, 0, none⟩)) 0).run Try.prog w = .ok (.pointer (some ⟨g778, 0, none⟩)) w)) ?_
    clear hF; intro a hF
    refine seq_yl hF (wn_none rfl) rfl rfl (yl_load (fun _ h => h ▸ hS) hF rfl rfl 1 rfl ag9 rfl) ?_
    clear hF; intro a hF
    refine seq_wp (wn_none rfl) (wp_call (vs := [_, _, _]) hF rfl rfl rfl rfl cf17 (perm_any st773 _ ([] : List E59) (rm774) _ ([(E59.mk ((rnd (n1) ((((st773).size : Int) / 8)))) (dataF (n2) (1 : Int)))] : List E59) st773 _ (hS.rdRo 2 rfl) (by first | omega | (simp; done)) (by first | omega | (simp; done)) (hS.rdRow 0 rfl) (by first | omega | (simp; done)) (by first | omega | (simp; done))) ?_)
    clear hF; rintro _ w ⟨bq807, rfl, hpm808, hS1⟩ a hF
    replace hS := hS.callB hS1 rfl; clear hS1
    replace hF := fr_set (b' := true) hF (hpm808.2 (by have h9 := (fly_perm hdf hsx (data8 n2) hoz).2 (.inl rfl); rwa [show wim st773 ((rnd (n1) ((((st773).size : Int) / 8)))) (subs st773 (((rnd (n1) ((((st773).size : Int) / 8)))) * 8) ((((rnd (n1) ((((st773).size : Int) / 8)))) + 1) * 8)) = st773 from wim_self hsx] at h9))
    refine seq_yl hF (wn_none rfl) rfl rfl (yl_move hF rfl rfl) ?_
    clear hF; intro a hF
    refine seq_yl hF (wn_t hF rfl rfl rfl rfl) rfl rfl (yl_loadK (rs := [_, _, _]) (fun _ h => h ▸ hS) hF rfl rfl 1 rfl ag24 sz24 rfl rfl) ?_
    clear hF; intro a hF
    refine seq_yl hF (wn_t hF rfl rfl rfl rfl) rfl rfl (yl_move hF rfl rfl) ?_
    clear hF; intro a hF
    refine seq_yl hF (wn_t hF rfl rfl rfl rfl) rfl rfl (yl_move hF rfl rfl) ?_
    clear hF; intro a hF
    refine seq_wp (wn_t hF rfl rfl rfl rfl) (wp_call (vs := [_, _, _]) hF rfl rfl rfl rfl cf17 (perm_any st773 _ ([] : List E59) (rm774) _ ([(E59.mk ((rnd (n1) ((((st773).size : Int) / 8)))) (dataF (n2) (1 : Int)))] : List E59) (wim st773 ((rnd (n1) ((((st773).size : Int) / 8)))) (tornF (dataF (n2) (1 : Int)) (subs st773 (((rnd (n1) ((((st773).size : Int) / 8)))) * 8) ((((rnd (n1) ((((st773).size : Int) / 8)))) + (1 : Int)) * 8)))) _ (hS.rdRo 2 rfl) (by first | omega | (simp; done)) (by first | omega | (simp; done)) (hS.rdRow 0 rfl) (by first | omega | (simp; done)) (by first | omega | (simp; done))) ?_)
    clear hF; rintro _ w ⟨bq809, rfl, hpm810, hS1⟩ a hF
    replace hS := hS.callB hS1 rfl; clear hS1
    replace hF := fr_set (b' := true) hF (hpm810.2 ((fly_perm hdf hsx (data8 _) (by omega)).2 (.inr (.inr rfl))))
    refine seq_yl hF (wn_none rfl) rfl rfl (yl_pick (u := _) (v := undef) hF rfl rfl (fun _ => rfl) (fun h => by cases h)) ?_
    clear hF; intro a hF
    refine seq_yl hF (wn_none rfl) rfl rfl (yl_move hF rfl rfl) ?_
    clear hF; intro a hF
    refine seq_yl hF (wn_t hF rfl rfl rfl rfl) rfl rfl (yl_loadK (rs := [_, _, _]) (fun _ h => h ▸ hS) hF rfl rfl 1 rfl ag24 sz24 rfl rfl) ?_
    clear hF; intro a hF
    refine seq_yl hF (wn_t hF rfl rfl rfl rfl) rfl rfl (yl_move hF rfl rfl) ?_
    clear hF; intro a hF
    refine seq_yl hF (wn_t hF rfl rfl rfl rfl) rfl rfl (yl_move hF rfl rfl) ?_
    clear hF; intro a hF
    refine seq_wp (wn_t hF rfl rfl rfl rfl) (wp_call (vs := [_, _, _]) hF rfl rfl rfl rfl cf17 (perm_any st773 _ ([] : List E59) (rm774) _ ([(E59.mk ((rnd (n1) ((((st773).size : Int) / 8)))) (dataF (n2) (1 : Int)))] : List E59) (wim st773 ((rnd (n1) ((((st773).size : Int) / 8)))) (dataF (n2) (1 : Int))) _ (hS.rdRo 2 rfl) (by first | omega | (simp; done)) (by first | omega | (simp; done)) (hS.rdRow 0 rfl) (by first | omega | (simp; done)) (by first | omega | (simp; done))) ?_)
    clear hF; rintro _ w ⟨bq811, rfl, hpm812, hS1⟩ a hF
    replace hS := hS.callB hS1 rfl; clear hS1
    replace hF := fr_set (b' := true) hF (hpm812.2 ((fly_perm hdf hsx (data8 _) (by omega)).2 (.inr (.inl rfl))))
    refine seq_yl hF (wn_none rfl) rfl rfl (yl_pick (u := _) (v := undef) hF rfl rfl (fun _ => rfl) (fun h => by cases h)) ?_
    clear hF; intro a hF
    refine seq_yl hF (wn_none rfl) rfl rfl (yl_move hF rfl rfl) ?_
    clear hF; intro a hF
    refine seq_yl hF (wn_t hF rfl rfl rfl rfl) rfl rfl (yl_loadK (rs := [_, _, _]) (fun _ h => h ▸ hS) hF rfl rfl 1 rfl ag24 sz24 rfl rfl) ?_
    clear hF; intro a hF
    refine seq_yl hF (wn_t hF rfl rfl rfl rfl) rfl rfl (yl_move hF rfl rfl) ?_
    clear hF; intro a hF
    refine seq_yl hF (wn_t hF rfl rfl rfl rfl) rfl rfl (yl_move hF rfl rfl) ?_
    clear hF; intro a hF
    refine seq_wp (wn_t hF rfl rfl rfl rfl) (wp_call (vs := [_, _, _]) hF rfl rfl rfl rfl cf17 (perm_any st773 _ ([] : List E59) (rm774) _ ([(E59.mk ((rnd (n1) ((((st773).size : Int) / 8)))) (dataF (n2) (1 : Int)))] : List E59) (wim st773 ((rnd (n1) ((((st773).size : Int) / 8)))) (tornF (subs st773 (((rnd (n1) ((((st773).size : Int) / 8)))) * 8) ((((rnd (n1) ((((st773).size : Int) / 8)))) + (1 : Int)) * 8)) (dataF (n2) (1 : Int)))) _ (hS.rdRo 2 rfl) (by first | omega | (simp; done)) (by first | omega | (simp; done)) (hS.rdRow 0 rfl) (by first | omega | (simp; done)) (by first | omega | (simp; done))) ?_)
    clear hF; rintro _ w ⟨bq813, rfl, hpm814, hS1⟩ a hF
    replace hS := hS.callB hS1 rfl; clear hS1
    refine seq_yl hF (wn_t hF rfl rfl rfl rfl) rfl rfl (yl_move hF rfl rfl) ?_
    clear hF; intro a hF
    refine seq_yl hF (wn_t hF rfl rfl rfl rfl) rfl rfl (yl_bin hF rfl rfl rfl rfl (fun _ => run_eqb Try.underlying4)) ?_
    clear hF; intro a hF
    replace hF := fr_set (b' := true) hF (by have h7 := fly_perm hdf hsx (data8 n2) (y := tornF (subs st773 (((rnd (n1) ((((st773).size : Int) / 8)))) * 8) ((((rnd (n1) ((((st773).size : Int) / 8)))) + 1) * 8)) (dataF n2 1)) (by omega); have e1 : wim st773 ((rnd (n1) ((((st773).size : Int) / 8)))) (tornF (subs st773 (((rnd (n1) ((((st773).size : Int) / 8)))) * 8) ((((rnd (n1) ((((st773).size : Int) / 8)))) + 1) * 8)) (dataF n2 1)) = st773 ↔ tornF (subs st773 (((rnd (n1) ((((st773).size : Int) / 8)))) * 8) ((((rnd (n1) ((((st773).size : Int) / 8)))) + 1) * 8)) (dataF n2 1) = (subs st773 (((rnd (n1) ((((st773).size : Int) / 8)))) * 8) ((((rnd (n1) ((((st773).size : Int) / 8)))) + 1) * 8)) := ⟨fun h => (wim_inj hsx (by omega) hoz).1 (h.trans (wim_self hsx).symm), fun h => by rw [h]; exact wim_self hsx⟩; have e2 := wim_inj hsx (y := tornF (subs st773 (((rnd (n1) ((((st773).size : Int) / 8)))) * 8) ((((rnd (n1) ((((st773).size : Int) / 8)))) + 1) * 8)) (dataF n2 1)) (z := tornF (dataF n2 1) (subs st773 (((rnd (n1) ((((st773).size : Int) / 8)))) * 8) ((((rnd (n1) ((((st773).size : Int) / 8)))) + 1) * 8))) (by omega) (by omega); have e3 := wim_inj hsx (y := tornF (subs st773 (((rnd (n1) ((((st773).size : Int) / 8)))) * 8) ((((rnd (n1) ((((st773).size : Int) / 8)))) + 1) * 8)) (dataF n2 1)) (z := (dataF n2 1)) (by omega) (data8 n2); have h6 := hpm814.trans h7; have h5 : bq813 = true := (by first | exact h6.2 (.inl (e1.1 (by assumption))) | exact h6.2 (.inr (.inr (e2.1 (by assumption)))) | (rw [Bool.eq_iff_iff, decide_eq_true_eq]; exact h6.trans ⟨fun h4 => by rcases h4 with h4 | h4 | h4; exact absurd (e1.2 h4) (by assumption); exact e3.2 h4; exact absurd (e2.2 h4) (by assumption), fun h4 => .inr (.inl (e3.1 h4))⟩)); rw [h5]; simp)
    refine seq_yl hF (wn_none rfl) rfl rfl (yl_pick (u := _) (v := undef) hF rfl rfl (fun _ => rfl) (fun h => by cases h)) ?_
    clear hF; intro a hF
    refine seq_yl hF (wn_none rfl) rfl rfl (yl_move hF rfl rfl) ?_
    clear hF; intro a hF
    refine seq_wp (wn_t hF rfl rfl rfl rfl) (wp_call (vs := []) hF rfl rfl rfl rfl cf19 (awake_any _) ?_)
    clear hF; rintro _ w ⟨rfl, hS1⟩ a hF
    replace hS := hS.callB hS1 rfl; clear hS1
    refine seq_yl hF (wn_none rfl) rfl rfl (yl_pick (u := _) (v := undef) hF rfl rfl (fun _ => rfl) (fun h => by cases h)) ?_
    clear hF; intro a hF
    refine seq_yl hF (wn_none rfl) rfl rfl (yl_assign hF rfl rfl) ?_
    clear hF; intro a hF
    refine wpList_nil ?_
    refine then_n ?_
    refine wp_ret ?_
    refine ret_t hF rfl rfl ?_
    exact ⟨_, rfl, rfl, (hS.sub [] (by decide) (by first | rfl | simp) (by simp))⟩
  · first | (replace hc806 := of_decide_eq_false hc806) | (replace hc806 := of_decide_eq_true (bnot_f hc806)) | (replace hc806 := bnot_f hc806) | skip
    try (have hc806x := hc806; simp only [okS, okI, okW, okP] at hc806x)
    refine seq_yl hF (wn_t hF rfl rfl rfl rfl) rfl rfl (yl_move hF rfl rfl) ?_
    clear hF; intro a hF
    refine seq_yl hF (wn_t hF rfl rfl rfl rfl) rfl rfl (yl_move hF rfl rfl) ?_
    clear hF; intro a hF
    refine seq_yl hF (wn_t hF rfl rfl rfl rfl) rfl rfl (yl_bin hF rfl rfl rfl rfl (fun _ => run_str_eql)) ?_
    clear hF; intro a hF
    refine seq_yl hF (wn_none rfl) rfl rfl (yl_pick (u := _) (v := undef) hF rfl rfl (fun h => by cases h) (fun _ => rfl)) ?_
    clear hF; intro a hF
    refine seq_yl hF (wn_none rfl) rfl rfl (yl_move hF rfl rfl) ?_
    clear hF; intro a hF
    refine fr_split hF (fun hc815 hF => ?_) (fun hc815 hF => ?_)
    · first | (replace hc815 := of_decide_eq_true hc815) | (replace hc815 := of_decide_eq_false (bnot_t hc815)) | (replace hc815 := bnot_t hc815) | skip
      try (have hc815x := hc815; simp only [okS, okI, okW, okP] at hc815x)
      refine seq_skip hF (wn_f hF rfl rfl rfl rfl) rfl rfl ?_
      clear hF; intro a hF
      refine seq_skip hF (wn_f hF rfl rfl rfl rfl) rfl rfl ?_
      clear hF; intro a hF
      refine seq_skip hF (wn_f hF rfl rfl rfl rfl) rfl rfl ?_
      clear hF; intro a hF
      refine seq_yl hF (wn_none rfl) rfl rfl (yl_pick (u := _) (v := undef) hF rfl rfl (fun _ => rfl) (fun h => by cases h)) ?_
      clear hF; intro a hF
      refine seq_yl hF (wn_none rfl) rfl rfl (yl_assign hF rfl rfl) ?_
      clear hF; intro a hF
      refine wpList_nil ?_
      refine then_n ?_
      refine c_seq ?_
      refine c_region ?_
      refine seq_yl hF (wn_none rfl) rfl rfl (yl_loadK (rs := [_, _, _]) (fun _ h => h ▸ hS) hF rfl rfl 1 rfl ag24 sz24 rfl rfl) ?_
      clear hF; intro a hF
      refine seq_yl hF (wn_none rfl) rfl rfl (yl_move hF rfl rfl) ?_
      clear hF; intro a hF
      refine seq_yl hF (wn_none rfl) rfl rfl (yl_fieldAddr hF rfl rfl (fun w => by kernel_rfl : ∀ w, (Instr.fieldAt 24 (.pointer (some ⟨g778, 0, none⟩)) 0).run Try.prog w = .ok (.pointer (some ⟨g778, 0, none⟩)) w)) ?_
      clear hF; intro a hF
      refine seq_yl hF (wn_none rfl) rfl rfl (yl_load (fun _ h => h ▸ hS) hF rfl rfl 1 rfl ag9 rfl) ?_
      clear hF; intro a hF
      refine seq_wp (wn_none rfl) (wp_call (vs := [_, _, _]) hF rfl rfl rfl rfl cf17 (perm_any st773 _ ([] : List E59) (rm774) _ ([(E59.mk ((rnd (n1) ((((st773).size : Int) / 8)))) (dataF (n2) (1 : Int)))] : List E59) st773 _ (hS.rdRo 2 rfl) (by first | omega | (simp; done)) (by first | omega | (simp; done)) (hS.rdRow 0 rfl) (by first | omega | (simp; done)) (by first | omega | (simp; done))) ?_)
      clear hF; rintro _ w ⟨bq816, rfl, hpm817, hS1⟩ a hF
      replace hS := hS.callB hS1 rfl; clear hS1
      replace hF := fr_set (b' := true) hF (hpm817.2 (by have h9 := (fly_perm hdf hsx (data8 n2) hoz).2 (.inl rfl); rwa [show wim st773 ((rnd (n1) ((((st773).size : Int) / 8)))) (subs st773 (((rnd (n1) ((((st773).size : Int) / 8)))) * 8) ((((rnd (n1) ((((st773).size : Int) / 8)))) + 1) * 8)) = st773 from wim_self hsx] at h9))
      refine seq_yl hF (wn_none rfl) rfl rfl (yl_move hF rfl rfl) ?_
      clear hF; intro a hF
      refine seq_yl hF (wn_t hF rfl rfl rfl rfl) rfl rfl (yl_loadK (rs := [_, _, _]) (fun _ h => h ▸ hS) hF rfl rfl 1 rfl ag24 sz24 rfl rfl) ?_
      clear hF; intro a hF
      refine seq_yl hF (wn_t hF rfl rfl rfl rfl) rfl rfl (yl_move hF rfl rfl) ?_
      clear hF; intro a hF
      refine seq_yl hF (wn_t hF rfl rfl rfl rfl) rfl rfl (yl_move hF rfl rfl) ?_
      clear hF; intro a hF
      refine seq_wp (wn_t hF rfl rfl rfl rfl) (wp_call (vs := [_, _, _]) hF rfl rfl rfl rfl cf17 (perm_any st773 _ ([] : List E59) (rm774) _ ([(E59.mk ((rnd (n1) ((((st773).size : Int) / 8)))) (dataF (n2) (1 : Int)))] : List E59) (wim st773 ((rnd (n1) ((((st773).size : Int) / 8)))) (tornF (dataF (n2) (1 : Int)) (subs st773 (((rnd (n1) ((((st773).size : Int) / 8)))) * 8) ((((rnd (n1) ((((st773).size : Int) / 8)))) + (1 : Int)) * 8)))) _ (hS.rdRo 2 rfl) (by first | omega | (simp; done)) (by first | omega | (simp; done)) (hS.rdRow 0 rfl) (by first | omega | (simp; done)) (by first | omega | (simp; done))) ?_)
      clear hF; rintro _ w ⟨bq818, rfl, hpm819, hS1⟩ a hF
      replace hS := hS.callB hS1 rfl; clear hS1
      replace hF := fr_set (b' := true) hF (hpm819.2 ((fly_perm hdf hsx (data8 _) (by omega)).2 (.inr (.inr rfl))))
      refine seq_yl hF (wn_none rfl) rfl rfl (yl_pick (u := _) (v := undef) hF rfl rfl (fun _ => rfl) (fun h => by cases h)) ?_
      clear hF; intro a hF
      refine seq_yl hF (wn_none rfl) rfl rfl (yl_move hF rfl rfl) ?_
      clear hF; intro a hF
      refine seq_yl hF (wn_t hF rfl rfl rfl rfl) rfl rfl (yl_loadK (rs := [_, _, _]) (fun _ h => h ▸ hS) hF rfl rfl 1 rfl ag24 sz24 rfl rfl) ?_
      clear hF; intro a hF
      refine seq_yl hF (wn_t hF rfl rfl rfl rfl) rfl rfl (yl_move hF rfl rfl) ?_
      clear hF; intro a hF
      refine seq_yl hF (wn_t hF rfl rfl rfl rfl) rfl rfl (yl_move hF rfl rfl) ?_
      clear hF; intro a hF
      refine seq_wp (wn_t hF rfl rfl rfl rfl) (wp_call (vs := [_, _, _]) hF rfl rfl rfl rfl cf17 (perm_any st773 _ ([] : List E59) (rm774) _ ([(E59.mk ((rnd (n1) ((((st773).size : Int) / 8)))) (dataF (n2) (1 : Int)))] : List E59) (wim st773 ((rnd (n1) ((((st773).size : Int) / 8)))) (dataF (n2) (1 : Int))) _ (hS.rdRo 2 rfl) (by first | omega | (simp; done)) (by first | omega | (simp; done)) (hS.rdRow 0 rfl) (by first | omega | (simp; done)) (by first | omega | (simp; done))) ?_)
      clear hF; rintro _ w ⟨bq820, rfl, hpm821, hS1⟩ a hF
      replace hS := hS.callB hS1 rfl; clear hS1
      replace hF := fr_set (b' := true) hF (hpm821.2 ((fly_perm hdf hsx (data8 _) (by omega)).2 (.inr (.inl rfl))))
      refine seq_yl hF (wn_none rfl) rfl rfl (yl_pick (u := _) (v := undef) hF rfl rfl (fun _ => rfl) (fun h => by cases h)) ?_
      clear hF; intro a hF
      refine seq_yl hF (wn_none rfl) rfl rfl (yl_move hF rfl rfl) ?_
      clear hF; intro a hF
      refine seq_yl hF (wn_t hF rfl rfl rfl rfl) rfl rfl (yl_loadK (rs := [_, _, _]) (fun _ h => h ▸ hS) hF rfl rfl 1 rfl ag24 sz24 rfl rfl) ?_
      clear hF; intro a hF
      refine seq_yl hF (wn_t hF rfl rfl rfl rfl) rfl rfl (yl_move hF rfl rfl) ?_
      clear hF; intro a hF
      refine seq_yl hF (wn_t hF rfl rfl rfl rfl) rfl rfl (yl_move hF rfl rfl) ?_
      clear hF; intro a hF
      refine seq_wp (wn_t hF rfl rfl rfl rfl) (wp_call (vs := [_, _, _]) hF rfl rfl rfl rfl cf17 (perm_any st773 _ ([] : List E59) (rm774) _ ([(E59.mk ((rnd (n1) ((((st773).size : Int) / 8)))) (dataF (n2) (1 : Int)))] : List E59) (wim st773 ((rnd (n1) ((((st773).size : Int) / 8)))) (tornF (subs st773 (((rnd (n1) ((((st773).size : Int) / 8)))) * 8) ((((rnd (n1) ((((st773).size : Int) / 8)))) + (1 : Int)) * 8)) (dataF (n2) (1 : Int)))) _ (hS.rdRo 2 rfl) (by first | omega | (simp; done)) (by first | omega | (simp; done)) (hS.rdRow 0 rfl) (by first | omega | (simp; done)) (by first | omega | (simp; done))) ?_)
      clear hF; rintro _ w ⟨bq822, rfl, hpm823, hS1⟩ a hF
      replace hS := hS.callB hS1 rfl; clear hS1
      refine seq_yl hF (wn_t hF rfl rfl rfl rfl) rfl rfl (yl_move hF rfl rfl) ?_
      clear hF; intro a hF
      refine seq_yl hF (wn_t hF rfl rfl rfl rfl) rfl rfl (yl_bin hF rfl rfl rfl rfl (fun _ => run_eqb Try.underlying4)) ?_
      clear hF; intro a hF
      replace hF := fr_set (b' := true) hF (by have h7 := fly_perm hdf hsx (data8 n2) (y := tornF (subs st773 (((rnd (n1) ((((st773).size : Int) / 8)))) * 8) ((((rnd (n1) ((((st773).size : Int) / 8)))) + 1) * 8)) (dataF n2 1)) (by omega); have e1 : wim st773 ((rnd (n1) ((((st773).size : Int) / 8)))) (tornF (subs st773 (((rnd (n1) ((((st773).size : Int) / 8)))) * 8) ((((rnd (n1) ((((st773).size : Int) / 8)))) + 1) * 8)) (dataF n2 1)) = st773 ↔ tornF (subs st773 (((rnd (n1) ((((st773).size : Int) / 8)))) * 8) ((((rnd (n1) ((((st773).size : Int) / 8)))) + 1) * 8)) (dataF n2 1) = (subs st773 (((rnd (n1) ((((st773).size : Int) / 8)))) * 8) ((((rnd (n1) ((((st773).size : Int) / 8)))) + 1) * 8)) := ⟨fun h => (wim_inj hsx (by omega) hoz).1 (h.trans (wim_self hsx).symm), fun h => by rw [h]; exact wim_self hsx⟩; have e2 := wim_inj hsx (y := tornF (subs st773 (((rnd (n1) ((((st773).size : Int) / 8)))) * 8) ((((rnd (n1) ((((st773).size : Int) / 8)))) + 1) * 8)) (dataF n2 1)) (z := tornF (dataF n2 1) (subs st773 (((rnd (n1) ((((st773).size : Int) / 8)))) * 8) ((((rnd (n1) ((((st773).size : Int) / 8)))) + 1) * 8))) (by omega) (by omega); have e3 := wim_inj hsx (y := tornF (subs st773 (((rnd (n1) ((((st773).size : Int) / 8)))) * 8) ((((rnd (n1) ((((st773).size : Int) / 8)))) + 1) * 8)) (dataF n2 1)) (z := (dataF n2 1)) (by omega) (data8 n2); have h6 := hpm823.trans h7; have h5 : bq822 = true := (by first | exact h6.2 (.inl (e1.1 (by assumption))) | exact h6.2 (.inr (.inr (e2.1 (by assumption)))) | (rw [Bool.eq_iff_iff, decide_eq_true_eq]; exact h6.trans ⟨fun h4 => by rcases h4 with h4 | h4 | h4; exact absurd (e1.2 h4) (by assumption); exact e3.2 h4; exact absurd (e2.2 h4) (by assumption), fun h4 => .inr (.inl (e3.1 h4))⟩)); rw [h5]; simp)
      refine seq_yl hF (wn_none rfl) rfl rfl (yl_pick (u := _) (v := undef) hF rfl rfl (fun _ => rfl) (fun h => by cases h)) ?_
      clear hF; intro a hF
      refine seq_yl hF (wn_none rfl) rfl rfl (yl_move hF rfl rfl) ?_
      clear hF; intro a hF
      refine seq_wp (wn_t hF rfl rfl rfl rfl) (wp_call (vs := []) hF rfl rfl rfl rfl cf19 (awake_any _) ?_)
      clear hF; rintro _ w ⟨rfl, hS1⟩ a hF
      replace hS := hS.callB hS1 rfl; clear hS1
      refine seq_yl hF (wn_none rfl) rfl rfl (yl_pick (u := _) (v := undef) hF rfl rfl (fun _ => rfl) (fun h => by cases h)) ?_
      clear hF; intro a hF
      refine seq_yl hF (wn_none rfl) rfl rfl (yl_assign hF rfl rfl) ?_
      clear hF; intro a hF
      refine wpList_nil ?_
      refine then_n ?_
      refine wp_ret ?_
      refine ret_t hF rfl rfl ?_
      exact ⟨_, rfl, rfl, (hS.sub [] (by decide) (by first | rfl | simp) (by simp))⟩
    · first | (replace hc815 := of_decide_eq_false hc815) | (replace hc815 := of_decide_eq_true (bnot_f hc815)) | (replace hc815 := bnot_f hc815) | skip
      try (have hc815x := hc815; simp only [okS, okI, okW, okP] at hc815x)
      refine seq_yl hF (wn_t hF rfl rfl rfl rfl) rfl rfl (yl_move hF rfl rfl) ?_
      clear hF; intro a hF
      refine seq_yl hF (wn_t hF rfl rfl rfl rfl) rfl rfl (yl_move hF rfl rfl) ?_
      clear hF; intro a hF
      refine seq_yl hF (wn_t hF rfl rfl rfl rfl) rfl rfl (yl_bin hF rfl rfl rfl rfl (fun _ => run_str_eql)) ?_
      clear hF; intro a hF
      refine seq_yl hF (wn_none rfl) rfl rfl (yl_pick (u := _) (v := undef) hF rfl rfl (fun h => by cases h) (fun _ => rfl)) ?_
      clear hF; intro a hF
      refine seq_yl hF (wn_none rfl) rfl rfl (yl_assign hF rfl rfl) ?_
      clear hF; intro a hF
      refine wpList_nil ?_
      refine then_n ?_
      refine c_seq ?_
      refine c_region ?_
      refine seq_yl hF (wn_none rfl) rfl rfl (yl_loadK (rs := [_, _, _]) (fun _ h => h ▸ hS) hF rfl rfl 1 rfl ag24 sz24 rfl rfl) ?_
      clear hF; intro a hF
      refine seq_yl hF (wn_none rfl) rfl rfl (yl_move hF rfl rfl) ?_
      clear hF; intro a hF
      refine seq_yl hF (wn_none rfl) rfl rfl (yl_fieldAddr hF rfl rfl (fun w => by kernel_rfl : ∀ w, (Instr.fieldAt 24 (.pointer (some ⟨g778, 0, none⟩)) 0).run Try.prog w = .ok (.pointer (some ⟨g778, 0, none⟩)) w)) ?_
      clear hF; intro a hF
      refine seq_yl hF (wn_none rfl) rfl rfl (yl_load (fun _ h => h ▸ hS) hF rfl rfl 1 rfl ag9 rfl) ?_
      clear hF; intro a hF
      refine seq_wp (wn_none rfl) (wp_call (vs := [_, _, _]) hF rfl rfl rfl rfl cf17 (perm_any st773 _ ([] : List E59) (rm774) _ ([(E59.mk ((rnd (n1) ((((st773).size : Int) / 8)))) (dataF (n2) (1 : Int)))] : List E59) st773 _ (hS.rdRo 2 rfl) (by first | omega | (simp; done)) (by first | omega | (simp; done)) (hS.rdRow 0 rfl) (by first | omega | (simp; done)) (by first | omega | (simp; done))) ?_)
      clear hF; rintro _ w ⟨bq824, rfl, hpm825, hS1⟩ a hF
      replace hS := hS.callB hS1 rfl; clear hS1
      replace hF := fr_set (b' := true) hF (hpm825.2 (by have h9 := (fly_perm hdf hsx (data8 n2) hoz).2 (.inl rfl); rwa [show wim st773 ((rnd (n1) ((((st773).size : Int) / 8)))) (subs st773 (((rnd (n1) ((((st773).size : Int) / 8)))) * 8) ((((rnd (n1) ((((st773).size : Int) / 8)))) + 1) * 8)) = st773 from wim_self hsx] at h9))
      refine seq_yl hF (wn_none rfl) rfl rfl (yl_move hF rfl rfl) ?_
      clear hF; intro a hF
      refine seq_yl hF (wn_t hF rfl rfl rfl rfl) rfl rfl (yl_loadK (rs := [_, _, _]) (fun _ h => h ▸ hS) hF rfl rfl 1 rfl ag24 sz24 rfl rfl) ?_
      clear hF; intro a hF
      refine seq_yl hF (wn_t hF rfl rfl rfl rfl) rfl rfl (yl_move hF rfl rfl) ?_
      clear hF; intro a hF
      refine seq_yl hF (wn_t hF rfl rfl rfl rfl) rfl rfl (yl_move hF rfl rfl) ?_
      clear hF; intro a hF
      refine seq_wp (wn_t hF rfl rfl rfl rfl) (wp_call (vs := [_, _, _]) hF rfl rfl rfl rfl cf17 (perm_any st773 _ ([] : List E59) (rm774) _ ([(E59.mk ((rnd (n1) ((((st773).size : Int) / 8)))) (dataF (n2) (1 : Int)))] : List E59) (wim st773 ((rnd (n1) ((((st773).size : Int) / 8)))) (tornF (dataF (n2) (1 : Int)) (subs st773 (((rnd (n1) ((((st773).size : Int) / 8)))) * 8) ((((rnd (n1) ((((st773).size : Int) / 8)))) + (1 : Int)) * 8)))) _ (hS.rdRo 2 rfl) (by first | omega | (simp; done)) (by first | omega | (simp; done)) (hS.rdRow 0 rfl) (by first | omega | (simp; done)) (by first | omega | (simp; done))) ?_)
      clear hF; rintro _ w ⟨bq826, rfl, hpm827, hS1⟩ a hF
      replace hS := hS.callB hS1 rfl; clear hS1
      replace hF := fr_set (b' := true) hF (hpm827.2 ((fly_perm hdf hsx (data8 _) (by omega)).2 (.inr (.inr rfl))))
      refine seq_yl hF (wn_none rfl) rfl rfl (yl_pick (u := _) (v := undef) hF rfl rfl (fun _ => rfl) (fun h => by cases h)) ?_
      clear hF; intro a hF
      refine seq_yl hF (wn_none rfl) rfl rfl (yl_move hF rfl rfl) ?_
      clear hF; intro a hF
      refine seq_yl hF (wn_t hF rfl rfl rfl rfl) rfl rfl (yl_loadK (rs := [_, _, _]) (fun _ h => h ▸ hS) hF rfl rfl 1 rfl ag24 sz24 rfl rfl) ?_
      clear hF; intro a hF
      refine seq_yl hF (wn_t hF rfl rfl rfl rfl) rfl rfl (yl_move hF rfl rfl) ?_
      clear hF; intro a hF
      refine seq_yl hF (wn_t hF rfl rfl rfl rfl) rfl rfl (yl_move hF rfl rfl) ?_
      clear hF; intro a hF
      refine seq_wp (wn_t hF rfl rfl rfl rfl) (wp_call (vs := [_, _, _]) hF rfl rfl rfl rfl cf17 (perm_any st773 _ ([] : List E59) (rm774) _ ([(E59.mk ((rnd (n1) ((((st773).size : Int) / 8)))) (dataF (n2) (1 : Int)))] : List E59) (wim st773 ((rnd (n1) ((((st773).size : Int) / 8)))) (dataF (n2) (1 : Int))) _ (hS.rdRo 2 rfl) (by first | omega | (simp; done)) (by first | omega | (simp; done)) (hS.rdRow 0 rfl) (by first | omega | (simp; done)) (by first | omega | (simp; done))) ?_)
      clear hF; rintro _ w ⟨bq828, rfl, hpm829, hS1⟩ a hF
      replace hS := hS.callB hS1 rfl; clear hS1
      replace hF := fr_set (b' := true) hF (hpm829.2 ((fly_perm hdf hsx (data8 _) (by omega)).2 (.inr (.inl rfl))))
      refine seq_yl hF (wn_none rfl) rfl rfl (yl_pick (u := _) (v := undef) hF rfl rfl (fun _ => rfl) (fun h => by cases h)) ?_
      clear hF; intro a hF
      refine seq_yl hF (wn_none rfl) rfl rfl (yl_move hF rfl rfl) ?_
      clear hF; intro a hF
      refine seq_yl hF (wn_t hF rfl rfl rfl rfl) rfl rfl (yl_loadK (rs := [_, _, _]) (fun _ h => h ▸ hS) hF rfl rfl 1 rfl ag24 sz24 rfl rfl) ?_
      clear hF; intro a hF
      refine seq_yl hF (wn_t hF rfl rfl rfl rfl) rfl rfl (yl_move hF rfl rfl) ?_
      clear hF; intro a hF
      refine seq_yl hF (wn_t hF rfl rfl rfl rfl) rfl rfl (yl_move hF rfl rfl) ?_
      clear hF; intro a hF
      refine seq_wp (wn_t hF rfl rfl rfl rfl) (wp_call (vs := [_, _, _]) hF rfl rfl rfl rfl cf17 (perm_any st773 _ ([] : List E59) (rm774) _ ([(E59.mk ((rnd (n1) ((((st773).size : Int) / 8)))) (dataF (n2) (1 : Int)))] : List E59) (wim st773 ((rnd (n1) ((((st773).size : Int) / 8)))) (tornF (subs st773 (((rnd (n1) ((((st773).size : Int) / 8)))) * 8) ((((rnd (n1) ((((st773).size : Int) / 8)))) + (1 : Int)) * 8)) (dataF (n2) (1 : Int)))) _ (hS.rdRo 2 rfl) (by first | omega | (simp; done)) (by first | omega | (simp; done)) (hS.rdRow 0 rfl) (by first | omega | (simp; done)) (by first | omega | (simp; done))) ?_)
      clear hF; rintro _ w ⟨bq830, rfl, hpm831, hS1⟩ a hF
      replace hS := hS.callB hS1 rfl; clear hS1
      refine seq_yl hF (wn_t hF rfl rfl rfl rfl) rfl rfl (yl_move hF rfl rfl) ?_
      clear hF; intro a hF
      refine seq_yl hF (wn_t hF rfl rfl rfl rfl) rfl rfl (yl_bin hF rfl rfl rfl rfl (fun _ => run_eqb Try.underlying4)) ?_
      clear hF; intro a hF
      replace hF := fr_set (b' := true) hF (by have h7 := fly_perm hdf hsx (data8 n2) (y := tornF (subs st773 (((rnd (n1) ((((st773).size : Int) / 8)))) * 8) ((((rnd (n1) ((((st773).size : Int) / 8)))) + 1) * 8)) (dataF n2 1)) (by omega); have e1 : wim st773 ((rnd (n1) ((((st773).size : Int) / 8)))) (tornF (subs st773 (((rnd (n1) ((((st773).size : Int) / 8)))) * 8) ((((rnd (n1) ((((st773).size : Int) / 8)))) + 1) * 8)) (dataF n2 1)) = st773 ↔ tornF (subs st773 (((rnd (n1) ((((st773).size : Int) / 8)))) * 8) ((((rnd (n1) ((((st773).size : Int) / 8)))) + 1) * 8)) (dataF n2 1) = (subs st773 (((rnd (n1) ((((st773).size : Int) / 8)))) * 8) ((((rnd (n1) ((((st773).size : Int) / 8)))) + 1) * 8)) := ⟨fun h => (wim_inj hsx (by omega) hoz).1 (h.trans (wim_self hsx).symm), fun h => by rw [h]; exact wim_self hsx⟩; have e2 := wim_inj hsx (y := tornF (subs st773 (((rnd (n1) ((((st773).size : Int) / 8)))) * 8) ((((rnd (n1) ((((st773).size : Int) / 8)))) + 1) * 8)) (dataF n2 1)) (z := tornF (dataF n2 1) (subs st773 (((rnd (n1) ((((st773).size : Int) / 8)))) * 8) ((((rnd (n1) ((((st773).size : Int) / 8)))) + 1) * 8))) (by omega) (by omega); have e3 := wim_inj hsx (y := tornF (subs st773 (((rnd (n1) ((((st773).size : Int) / 8)))) * 8) ((((rnd (n1) ((((st773).size : Int) / 8)))) + 1) * 8)) (dataF n2 1)) (z := (dataF n2 1)) (by omega) (data8 n2); have h6 := hpm831.trans h7; have h5 : bq830 = (decide ((wim st773 ((rnd (n1) ((((st773).size : Int) / 8)))) (tornF (subs st773 (((rnd (n1) ((((st773).size : Int) / 8)))) * 8) ((((rnd (n1) ((((st773).size : Int) / 8)))) + (1 : Int)) * 8)) (dataF (n2) (1 : Int)))) = (wim st773 ((rnd (n1) ((((st773).size : Int) / 8)))) (dataF (n2) (1 : Int))))) := (by first | exact h6.2 (.inl (e1.1 (by assumption))) | exact h6.2 (.inr (.inr (e2.1 (by assumption)))) | (rw [Bool.eq_iff_iff, decide_eq_true_eq]; exact h6.trans ⟨fun h4 => by rcases h4 with h4 | h4 | h4; exact absurd (e1.2 h4) (by assumption); exact e3.2 h4; exact absurd (e2.2 h4) (by assumption), fun h4 => .inr (.inl (e3.1 h4))⟩)); rw [h5]; simp)
      refine seq_yl hF (wn_none rfl) rfl rfl (yl_pick (u := _) (v := undef) hF rfl rfl (fun _ => rfl) (fun h => by cases h)) ?_
      clear hF; intro a hF
      refine seq_yl hF (wn_none rfl) rfl rfl (yl_move hF rfl rfl) ?_
      clear hF; intro a hF
      refine seq_wp (wn_t hF rfl rfl rfl rfl) (wp_call (vs := []) hF rfl rfl rfl rfl cf19 (awake_any _) ?_)
      clear hF; rintro _ w ⟨rfl, hS1⟩ a hF
      replace hS := hS.callB hS1 rfl; clear hS1
      refine seq_yl hF (wn_none rfl) rfl rfl (yl_pick (u := _) (v := undef) hF rfl rfl (fun _ => rfl) (fun h => by cases h)) ?_
      clear hF; intro a hF
      refine seq_yl hF (wn_none rfl) rfl rfl (yl_assign hF rfl rfl) ?_
      clear hF; intro a hF
      refine wpList_nil ?_
      refine then_n ?_
      refine wp_ret ?_
      refine ret_t hF rfl rfl ?_
      exact ⟨_, rfl, rfl, (hS.sub [] (by decide) (by first | rfl | simp) (by simp))⟩

end Go.Proofs.Ytlhcpeolkkadbaa

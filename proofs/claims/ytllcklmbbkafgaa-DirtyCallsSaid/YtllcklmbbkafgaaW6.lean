/- walks, printed by wip/gen -/
import Derived.Test.YtllcklmbbkafgaaW4
import Derived.Test.YtllcklmbbkafgaaV
import Derived.Test.YtllcklmbbkafgaaP2
namespace Go.Proofs.Ytllcklmbbkafgaa
open Go.RowKit
set_option linter.unusedVariables false
set_option linter.unusedSimpArgs false

theorem next_any (w0 w : World) (Ht : List Chunk) (g : Nat) (Av : Option Addr) (cv : Nat) (L : List Int) (i : Nat) (m : Int) (hm : 1 ≤ m ∧ m ≤ 9223372036854775807) (hS : Sat w0 w (.box g 25 #[.slice Av L.length cv, .int .i64 ((i : Nat) : Int)] :: .ro 1 (.slice Av L.length cv) L.length (cells encI L) :: Ht)) (hi : i ≤ L.length) (hL : L.length ≤ 9223372036854775807) :
    Fn Try.prog 7 #[.pointer (some ⟨g, 0, none⟩), .int .i64 m] w (fun v w' => ∃ (r : Int) (i' : Nat), v = .int .i64 r ∧ (0 ≤ r ∧ r < m) ∧ i' ≤ L.length ∧ Sat w0 w' (.box g 25 #[.slice Av L.length cv, .int .i64 ((i' : Nat) : Int)] :: .ro 1 (.slice Av L.length cv) L.length (cells encI L) :: Ht)) := by
  refine c_enterS (N := 35) (l := [_, _]) Try.func7 rfl rfl (fun a hF => ?_)
  refine c_seq ?_
  refine c_region ?_
  refine seq_yl hF (wn_none rfl) rfl rfl (yl_assign hF rfl rfl) ?_
  clear hF; intro a hF
  refine wpList_nil ?_
  refine then_n ?_
  refine c_seq ?_
  refine c_seq ?_
  refine ha_startS hS [0] 10 (by kernel_rfl) ?_; clear hS; intro w hS
  have hSS := hS.sub [0] (by decide) rfl (by simp)
  refine ha_yl 0 hF rfl rfl rfl (by kernel_rfl) (by kernel_rfl) (by kernel_rfl) (by decide) (fun _ _ _ h => h) (wn_none rfl) (.inr hSS) (yl_move hF rfl rfl) ?_
  clear hF; intro a hF
  refine ha_yl 1 hF rfl rfl rfl (by kernel_rfl) (by kernel_rfl) (by kernel_rfl) (by decide) (fun _ _ _ h => h) (wn_none rfl) (.inr hSS) (yl_nilCheck hF rfl rfl) ?_
  clear hF; intro a hF
  refine ha_yl 2 hF rfl rfl rfl (by kernel_rfl) (by kernel_rfl) (by kernel_rfl) (by decide) (fun _ _ _ h => h) (wn_none rfl) (.inr hSS) (yl_fieldAddr hF rfl rfl (fun w => by kernel_rfl : ∀ w, (Instr.fieldAt 25 (.pointer (some ⟨g, 0, none⟩)) 1).run Try.prog w = .ok (.pointer (some ⟨g, 1, none⟩)) w)) ?_
  clear hF; intro a hF
  refine ha_yl 4 hF rfl rfl rfl (by kernel_rfl) (by kernel_rfl) (by kernel_rfl) (by decide) (fun _ _ _ h => h) (wn_none rfl) (.inr hSS) (yl_move hF rfl rfl) ?_
  clear hF; intro a hF
  refine ha_yl 5 hF rfl rfl rfl (by kernel_rfl) (by kernel_rfl) (by kernel_rfl) (by decide) (fun _ _ _ h => h) (wn_none rfl) (.inr hSS) (yl_nilCheck hF rfl rfl) ?_
  clear hF; intro a hF
  refine ha_yl 6 hF rfl rfl rfl (by kernel_rfl) (by kernel_rfl) (by kernel_rfl) (by decide) (fun _ _ _ h => h) (wn_none rfl) (.inr hSS) (yl_fieldAddr hF rfl rfl (fun w => by kernel_rfl : ∀ w, (Instr.fieldAt 25 (.pointer (some ⟨g, 0, none⟩)) 0).run Try.prog w = .ok (.pointer (some ⟨g, 0, none⟩)) w)) ?_
  clear hF; intro a hF
  refine ha_ld 3 hF rfl rfl rfl (by kernel_rfl) (by kernel_rfl) (by kernel_rfl) (by decide) (by kernel_rfl) (by kernel_rfl) (fun _ _ _ h => h) (wn_none rfl) hSS (yl_load (fun _ h => h) hF rfl rfl 0 rfl ag3 rfl) ?_
  clear hF; intro a hF
  refine ha_ld 7 hF rfl rfl rfl (by kernel_rfl) (by kernel_rfl) (by kernel_rfl) (by decide) (by kernel_rfl) (by kernel_rfl) (fun _ _ _ h => h) (wn_none rfl) hSS (yl_load (fun _ h => h) hF rfl rfl 0 rfl ag22 rfl) ?_
  clear hF; intro a hF
  refine ha_yl 8 hF rfl rfl rfl (by kernel_rfl) (by kernel_rfl) (by kernel_rfl) (by decide) (fun _ _ _ h => h) (wn_none rfl) (.inr hSS) (yl_len hF rfl rfl (fun _ => run_lenRd sl22 (hS.rdRo 1 rfl))) ?_
  clear hF; intro a hF
  refine ha_yl 9 hF rfl rfl rfl (by kernel_rfl) (by kernel_rfl) (by kernel_rfl) (by decide) (fun _ _ _ h => h) (wn_none rfl) (.inr hSS) (yl_bin hF rfl rfl rfl rfl (fun _ => run_geq)) ?_
  clear hF; intro a hF
  refine ha_done (by kernel_rfl) ?_ _
  refine then_n ?_
  refine c_cond hF rfl (fun hc130 => ?_) (fun hc130 => ?_)
  · first | (replace hc130 := of_decide_eq_true hc130) | (replace hc130 := of_decide_eq_false (bnot_t hc130)) | (subst hc130) | (replace hc130 := bnot_t hc130; subst hc130) | (replace hc130 := bnot_t hc130) | skip
    refine c_seq ?_
    refine c_region ?_
    refine seq_yl hF (wn_none rfl) rfl rfl (yl_assign hF rfl rfl) ?_
    clear hF; intro a hF
    refine wpList_nil ?_
    refine then_n ?_
    refine wp_ret ?_
    refine then_r ?_
    refine ret_t hF rfl rfl ?_
    exact ⟨_, rfl, _, i, rfl, ⟨by omega, by omega⟩, by omega, (hS.subT 2 [0, 1] (by decide) (by first | rfl | simp) (by simp) (by simp))⟩
  · first | (replace hc130 := of_decide_eq_false hc130) | (replace hc130 := of_decide_eq_true (bnot_f hc130)) | (subst hc130) | (replace hc130 := bnot_f hc130; subst hc130) | (replace hc130 := bnot_f hc130) | skip
    refine wp_skip ?_
    refine then_n ?_
    refine c_seq ?_
    refine c_region ?_
    refine seq_yl hF (wn_none rfl) rfl rfl (yl_move hF rfl rfl) ?_
    clear hF; intro a hF
    refine seq_yl hF (wn_none rfl) rfl rfl (yl_nilCheck hF rfl rfl) ?_
    clear hF; intro a hF
    refine seq_yl hF (wn_none rfl) rfl rfl (yl_fieldAddr hF rfl rfl (fun w => by kernel_rfl : ∀ w, (Instr.fieldAt 25 (.pointer (some ⟨g, 0, none⟩)) 1).run Try.prog w = .ok (.pointer (some ⟨g, 1, none⟩)) w)) ?_
    clear hF; intro a hF
    refine seq_yl hF (wn_none rfl) rfl rfl (yl_load (fun _ h => h ▸ hS) hF rfl rfl 0 rfl ag3 rfl) ?_
    clear hF; intro a hF
    refine seq_yl hF (wn_none rfl) rfl rfl (yl_bin hF rfl rfl rfl rfl (fun _ => run_inc (by omega))) ?_
    clear hF; intro a hF
    refine seq_yl hF (wn_none rfl) rfl rfl (yl_nilCheck hF rfl rfl) ?_
    clear hF; intro a hF
    refine seq_yl hF (wn_none rfl) rfl rfl (yl_fieldAddr hF rfl rfl (fun w => by kernel_rfl : ∀ w, (Instr.fieldAt 25 (.pointer (some ⟨g, 0, none⟩)) 1).run Try.prog w = .ok (.pointer (some ⟨g, 1, none⟩)) w)) ?_
    clear hF; intro a hF
    refine seq_wp (wn_none rfl) (wp_store (cs' := #[_, _]) hF hS rfl rfl rfl rfl 0 rfl sz3 (by simp [Value.cells, Value.oneCell']) (by simp [Value.cells]) rfl ?_)
    clear hF hS; intro a w hF hS
    refine wpList_nil ?_
    refine then_n ?_
    refine c_seq ?_
    refine ha_startS hS [0, 1] 14 (by kernel_rfl) ?_; clear hS; intro w hS
    have hSS := hS.sub [0, 1] (by decide) rfl (by simp)
    refine ha_yl 0 hF rfl rfl rfl (by kernel_rfl) (by kernel_rfl) (by kernel_rfl) (by decide) (fun _ _ _ h => h) (wn_none rfl) (.inr hSS) (yl_move hF rfl rfl) ?_
    clear hF; intro a hF
    refine ha_yl 1 hF rfl rfl rfl (by kernel_rfl) (by kernel_rfl) (by kernel_rfl) (by decide) (fun _ _ _ h => h) (wn_none rfl) (.inr hSS) (yl_nilCheck hF rfl rfl) ?_
    clear hF; intro a hF
    refine ha_yl 2 hF rfl rfl rfl (by kernel_rfl) (by kernel_rfl) (by kernel_rfl) (by decide) (fun _ _ _ h => h) (wn_none rfl) (.inr hSS) (yl_fieldAddr hF rfl rfl (fun w => by kernel_rfl : ∀ w, (Instr.fieldAt 25 (.pointer (some ⟨g, 0, none⟩)) 0).run Try.prog w = .ok (.pointer (some ⟨g, 0, none⟩)) w)) ?_
    clear hF; intro a hF
    refine ha_yl 4 hF rfl rfl rfl (by kernel_rfl) (by kernel_rfl) (by kernel_rfl) (by decide) (fun _ _ _ h => h) (wn_none rfl) (.inr hSS) (yl_move hF rfl rfl) ?_
    clear hF; intro a hF
    refine ha_yl 5 hF rfl rfl rfl (by kernel_rfl) (by kernel_rfl) (by kernel_rfl) (by decide) (fun _ _ _ h => h) (wn_none rfl) (.inr hSS) (yl_nilCheck hF rfl rfl) ?_
    clear hF; intro a hF
    refine ha_yl 6 hF rfl rfl rfl (by kernel_rfl) (by kernel_rfl) (by kernel_rfl) (by decide) (fun _ _ _ h => h) (wn_none rfl) (.inr hSS) (yl_fieldAddr hF rfl rfl (fun w => by kernel_rfl : ∀ w, (Instr.fieldAt 25 (.pointer (some ⟨g, 0, none⟩)) 1).run Try.prog w = .ok (.pointer (some ⟨g, 1, none⟩)) w)) ?_
    clear hF; intro a hF
    refine ha_yl 11 hF rfl rfl rfl (by kernel_rfl) (by kernel_rfl) (by kernel_rfl) (by decide) (fun _ _ _ h => h) (wn_none rfl) (.inr hSS) (yl_move hF rfl rfl) ?_
    clear hF; intro a hF
    refine ha_ld 3 hF rfl rfl rfl (by kernel_rfl) (by kernel_rfl) (by kernel_rfl) (by decide) (by kernel_rfl) (by kernel_rfl) (fun _ _ _ h => h) (wn_none rfl) hSS (yl_load (fun _ h => h) hF rfl rfl 0 rfl ag22 rfl) ?_
    clear hF; intro a hF
    refine ha_ld 7 hF rfl rfl rfl (by kernel_rfl) (by kernel_rfl) (by kernel_rfl) (by decide) (by kernel_rfl) (by kernel_rfl) (fun _ _ _ h => h) (wn_none rfl) hSS (yl_load (fun _ h => h) hF rfl rfl 0 rfl ag3 rfl) ?_
    clear hF; intro a hF
    refine ha_yl 8 hF rfl rfl rfl (by kernel_rfl) (by kernel_rfl) (by kernel_rfl) (by decide) (fun _ _ _ h => h) (wn_none rfl) (.inr hSS) (yl_bin hF rfl rfl rfl rfl (fun _ => run_sub (by refine ⟨?_, ?_⟩ <;> omega))) ?_
    clear hF; intro a hF
    replace hF := fr_seti (b' := ((i : Nat) : Int)) hF (by omega)
    have hlt_hx131 : i < (L).length := by first | omega | (simp; done) | (simp; omega)
    obtain ⟨ad132, rfl⟩ := rd_some (hS.rdRo 1 rfl) hlt_hx131
    obtain ⟨x131, hx131⟩ := get_some hlt_hx131
    refine ha_yl 9 hF rfl rfl rfl (by kernel_rfl) (by kernel_rfl) (by kernel_rfl) (by decide) (fun _ _ _ h => h) (wn_none rfl) (.inr hSS) (yl_indexAddr hF rfl rfl rfl (fun _ => run_idx' sl22 sz3 (hS.rdRo 1 rfl) hlt_hx131)) ?_
    clear hF; intro a hF
    refine ha_ld 10 hF rfl rfl rfl (by kernel_rfl) (by kernel_rfl) (by kernel_rfl) (by decide) (by kernel_rfl) (by kernel_rfl) (fun _ _ _ h => h) (wn_none rfl) hSS (yl_loadAt hF rfl rfl ag3 (fun _ h => rd_cell0 (Sat.rdRo h 1 rfl) encI_len hx131 rfl rfl)) ?_
    clear hF; intro a hF
    have hr133 := rnd_bounds (x131) (m) (by omega)
    refine ha_one 12 (by kernel_rfl) rfl (wn_none rfl) (wp_call (vs := [_, _]) hF rfl rfl rfl rfl cf23 (cut_any (x131) (m) _ (by omega) (by omega)) ?_)
    clear hF; rintro _ w ⟨rfl, hS1⟩ a hF
    replace hS := hS.callB hS1 rfl; clear hS1
    replace hSS := hS.sub [0, 1] (by decide) rfl (by simp)
    refine ⟨.inr hSS, ?_⟩
    refine ha_yl 13 hF rfl rfl rfl (by kernel_rfl) (by kernel_rfl) (by kernel_rfl) (by decide) (fun _ _ _ h => h) (wn_none rfl) (.inr hSS) (yl_assign hF rfl rfl) ?_
    clear hF; intro a hF
    refine ha_done (by kernel_rfl) ?_ _
    refine then_n ?_
    refine wp_ret ?_
    refine ret_t hF rfl rfl ?_
    exact ⟨_, rfl, _, (i + 1), rfl, ⟨by omega, by omega⟩, by omega, (hS.subT 2 [0, 1] (by decide) (by first | rfl | simp) (by simp) (by simp))⟩

end Go.Proofs.Ytllcklmbbkafgaa

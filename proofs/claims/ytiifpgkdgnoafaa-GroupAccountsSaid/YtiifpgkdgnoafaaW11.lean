/- walks, printed by wip/gen -/
import Derived.Test.YtiifpgkdgnoafaaW5
namespace Go.Proofs.Ytiifpgkdgnoafaa
open Go.RowKit
set_option linter.unusedVariables false
set_option linter.unusedSimpArgs false

theorem endT_any (w0 w : World) (Ht : List Chunk) (g : Nat) (Av : Option Addr) (cv : Nat) (L : List Int) (i : Nat) (hS : Sat w0 w (.box g 25 #[.slice Av L.length cv, .int .i64 ((i : Nat) : Int)] :: .ro 1 (.slice Av L.length cv) L.length (cells encI L) :: Ht)) (hi : i ≤ L.length) (hL : L.length ≤ 9223372036854775807) :
    Fn Try.prog 26 #[.pointer (some ⟨g, 0, none⟩)] w (fun v w' => ∃ (b : Bool), v = .bool b ∧ Sat w0 w' (.box g 25 #[.slice Av L.length cv, .int .i64 ((i : Nat) : Int)] :: .ro 1 (.slice Av L.length cv) L.length (cells encI L) :: Ht)) := by
  refine c_enterS (N := 13) (l := [_]) Try.func26 rfl rfl (fun a hF => ?_)
  refine c_seq ?_
  refine c_region ?_
  refine seq_yl hF (wn_none rfl) rfl rfl (yl_assign hF rfl rfl) ?_
  clear hF; intro a hF
  refine wpList_nil ?_
  refine then_n ?_
  refine c_seq ?_
  refine ha_startS hS [0] 11 (by kernel_rfl) ?_; clear hS; intro w hS
  have hSS := hS.sub [0] (by decide) rfl (by simp)
  refine ha_yl 0 hF rfl rfl rfl (by kernel_rfl) (by kernel_rfl) (by kernel_rfl) (by decide) (fun _ _ _ h => h) (wn_none rfl) (.inr hSS) (yl_move hF rfl rfl) ?_
  clear hF; intro a hF
  refine ha_yl 1 hF rfl rfl rfl (by kernel_rfl) (by kernel_rfl) (by kernel_rfl) (by decide) (fun _ _ _ h => h) (wn_none rfl) (.inr hSS) (yl_nilCheck hF rfl rfl) ?_
  clear hF; intro a hF
  refine ha_yl 2 hF rfl rfl rfl (by kernel_rfl) (by kernel_rfl) (by kernel_rfl) (by decide) (fun _ _ _ h => h) (wn_none rfl) (.inr hSS) (yl_fieldAddr hF rfl rfl (fun w => by kernel_rfl : ∀ w, (Instr.fieldAt 25 (.pointer (some ⟨g, 0, none⟩)) 1).run Try.prog w = .ok (.pointer (some ⟨g, 1, none⟩)) w)) ?_
  clear hF; intro a hF
  refine ha_yl 4 hF rfl rfl rfl (by kernel_rfl) (by kernel_rfl) (by kernel_rfl) (by decide) (fun _ _ _ h => h) (wn_none rfl) (.inr hSS) (yl_move hF rfl rfl) ?_
  clear hF; intro a hF
  refine ha_yl 5 hF rfl rfl rfl (by kernel_rfl) (by kernel_rfl) (by kernel_rfl) (by decide) (fun _ _ _ h => h) (wn_none rfl) (.inr hSS) (yl_nilCheck hF rfl rfl) ?_
  clear hF; intro a hF
  refine ha_yl 6 hF rfl rfl rfl (by kernel_rfl) (by kernel_rfl) (by kernel_rfl) (by decide) (fun _ _ _ h => h) (wn_none rfl) (.inr hSS) (yl_fieldAddr hF rfl rfl (fun w => by kernel_rfl : ∀ w, (Instr.fieldAt 25 (.pointer (some ⟨g, 0, none⟩)) 0).run Try.prog w = .ok (.pointer (some ⟨g, 0, none⟩)) w)) ?_
  clear hF; intro a hF
  refine ha_ld 3 hF rfl rfl rfl (by kernel_rfl) (by kernel_rfl) (by kernel_rfl) (by decide) (by kernel_rfl) (by kernel_rfl) (fun _ _ _ h => h) (wn_none rfl) hSS (yl_load (fun _ h => h) hF rfl rfl 0 rfl ag3 rfl) ?_
  clear hF; intro a hF
  refine ha_ld 7 hF rfl rfl rfl (by kernel_rfl) (by kernel_rfl) (by kernel_rfl) (by decide) (by kernel_rfl) (by kernel_rfl) (fun _ _ _ h => h) (wn_none rfl) hSS (yl_load (fun _ h => h) hF rfl rfl 0 rfl ag22 rfl) ?_
  clear hF; intro a hF
  refine ha_yl 8 hF rfl rfl rfl (by kernel_rfl) (by kernel_rfl) (by kernel_rfl) (by decide) (fun _ _ _ h => h) (wn_none rfl) (.inr hSS) (yl_len hF rfl rfl (fun _ => run_lenRd sl22 (hS.rdRo 1 rfl))) ?_
  clear hF; intro a hF
  refine ha_yl 9 hF rfl rfl rfl (by kernel_rfl) (by kernel_rfl) (by kernel_rfl) (by decide) (fun _ _ _ h => h) (wn_none rfl) (.inr hSS) (yl_bin hF rfl rfl rfl rfl (fun _ => run_geq)) ?_
  clear hF; intro a hF
  refine ha_yl 10 hF rfl rfl rfl (by kernel_rfl) (by kernel_rfl) (by kernel_rfl) (by decide) (fun _ _ _ h => h) (wn_none rfl) (.inr hSS) (yl_assign hF rfl rfl) ?_
  clear hF; intro a hF
  refine ha_done (by kernel_rfl) ?_ _
  refine then_n ?_
  refine wp_ret ?_
  refine ret_t hF rfl rfl ?_
  exact ⟨_, rfl, _, rfl, (hS.subT 2 [0, 1] (by decide) (by first | rfl | simp) (by simp) (by simp))⟩

end Go.Proofs.Ytiifpgkdgnoafaa

/- walks, printed by wip/gen -/
import Derived.Test.YtglooclndbfhgaaW3
import Derived.Test.YtglooclndbfhgaaT
namespace Go.Proofs.Ytglooclndbfhgaa
open Go.RowKit
set_option linter.unusedVariables false
set_option linter.unusedSimpArgs false

theorem round_any (n m : Int) (w0 : World) (hm : m ≤ 9223372036854775807) :
    Fn Try.prog 17 #[.int .i64 n, .int .i64 m] w0 (fun v w' => v = .int .i64 (rnd n m) ∧ Sat w0 w' []) := by
  refine c_enter (N := 13) (l := [_, _]) Try.func17 rfl rfl (fun a w hF hS => ?_)
  refine c_seq ?_
  refine c_region ?_
  refine seq_yl hF (wn_none rfl) rfl rfl (yl_assign hF rfl rfl) ?_
  clear hF; intro a hF
  refine wpList_nil ?_
  refine then_n ?_
  refine c_seq ?_
  refine c_seq ?_
  refine c_region ?_
  refine seq_yl hF (wn_none rfl) rfl rfl (yl_move hF rfl rfl) ?_
  clear hF; intro a hF
  refine seq_yl hF (wn_none rfl) rfl rfl (yl_bin hF rfl rfl rfl rfl (fun _ => run_lss)) ?_
  clear hF; intro a hF
  refine wpList_nil ?_
  refine then_n ?_
  refine c_cond hF rfl (fun hc177 => ?_) (fun hc177 => ?_)
  · first | (replace hc177 := of_decide_eq_true hc177) | (subst hc177) | (replace hc177 := bnot_t hc177; subst hc177) | skip
    refine c_seq ?_
    refine c_region ?_
    refine seq_yl hF (wn_none rfl) rfl rfl (yl_assign hF rfl rfl) ?_
    clear hF; intro a hF
    refine wpList_nil ?_
    refine then_n ?_
    refine wp_ret ?_
    refine then_r ?_
    refine ret_t hF rfl rfl ?_
    exact ⟨_, rfl, congrArg (Value.int .i64) (by unfold rnd; rw [if_pos (by omega)]), (hS.sub [] (by decide) rfl (by simp))⟩
  · first | (replace hc177 := of_decide_eq_false hc177) | (subst hc177) | (replace hc177 := bnot_f hc177; subst hc177) | skip
    refine wp_skip ?_
    refine then_n ?_
    refine c_seq ?_
    refine c_region ?_
    refine seq_yl hF (wn_none rfl) rfl rfl (yl_move hF rfl rfl) ?_
    clear hF; intro a hF
    refine seq_yl hF (wn_none rfl) rfl rfl (yl_conv hF rfl rfl (fun _ => run_cnv Try.underlying3 Try.underlying42)) ?_
    clear hF; intro a hF
    refine seq_yl hF (wn_none rfl) rfl rfl (yl_move hF rfl rfl) ?_
    clear hF; intro a hF
    refine seq_yl hF (wn_none rfl) rfl rfl (yl_conv hF rfl rfl (fun _ => run_cnv Try.underlying3 Try.underlying42)) ?_
    clear hF; intro a hF
    refine seq_yl hF (wn_none rfl) rfl rfl (yl_bin hF rfl rfl rfl rfl (fun _ => run_rem (by rw [wrap_u64]; omega))) ?_
    clear hF; intro a hF
    refine seq_yl hF (wn_none rfl) rfl rfl (yl_conv hF rfl rfl (fun _ => run_cnv Try.underlying42 Try.underlying3)) ?_
    clear hF; intro a hF
    refine seq_yl hF (wn_none rfl) rfl rfl (yl_assign hF rfl rfl) ?_
    clear hF; intro a hF
    refine wpList_nil ?_
    refine then_n ?_
    refine wp_ret ?_
    refine ret_t hF rfl rfl ?_
    exact ⟨_, rfl, congrArg (Value.int .i64) (round_eq (by omega) hm), (hS.sub [] (by decide) rfl (by simp))⟩

end Go.Proofs.Ytglooclndbfhgaa

/- walks, printed by wip/gen -/
import Derived.Test.YtlhcpeolkkadbaaWa
namespace Go.Proofs.Ytlhcpeolkkadbaa
open Go.RowKit
set_option linter.unusedVariables false
set_option linter.unusedSimpArgs false

set_option maxRecDepth 100000 in
theorem torn2_any (x y : ByteArray) (w0 : World) (hx : (x.size : Int) = 8) (hy : (y.size : Int) = 8) :
    Fn Try.prog 33 #[.string x, .string y] w0 (fun v w' => v = .string (tornF x y) ∧ Sat w0 w' []) := by
  refine c_enter (N := 10) (l := [_, _]) Try.func33 rfl rfl (fun a w hF hS => ?_)
  refine c_seq ?_
  refine c_region ?_
  refine seq_yl hF (wn_none rfl) rfl rfl (yl_assign hF rfl rfl) ?_
  clear hF; intro a hF
  refine wpList_nil ?_
  refine then_n ?_
  refine c_seq ?_
  refine ha_startS hS [] 6 (by kernel_rfl) ?_; clear hS; intro w hS
  have hSS := hS.sub [] (by decide) rfl (by simp)
  refine ha_y 0 hF rfl rfl rfl (wn_none rfl) (.inr hSS) (yl_move hF rfl rfl) ?_
  clear hF; intro a hF
  have hz259 := subs_size (s := x) (i := 0) (j := (4 : Int)) (by omega) (by omega) (by omega)
  refine ha_y 1 hF rfl rfl rfl (wn_none rfl) (.inr hSS) (yl_subsH (s := x) (j := (4 : Int)) hF rfl rfl rfl Try.underlying9 (by omega) (by omega)) ?_
  clear hF; intro a hF
  refine ha_y 2 hF rfl rfl rfl (wn_none rfl) (.inr hSS) (yl_move hF rfl rfl) ?_
  clear hF; intro a hF
  have hz260 := subs_size (s := y) (i := (4 : Int)) (j := ((y).size : Int)) (by omega) (by omega) (by omega)
  refine ha_y 3 hF rfl rfl rfl (wn_none rfl) (.inr hSS) (yl_subsL (s := y) (i := (4 : Int)) hF rfl rfl rfl Try.underlying9 (by omega) (by omega)) ?_
  clear hF; intro a hF
  have hz261 := cat_size (subs x 0 (4 : Int)) (subs y (4 : Int) ((y).size : Int))
  refine ha_y 4 hF rfl rfl rfl (wn_none rfl) (.inr hSS) (yl_bin hF rfl rfl rfl rfl (fun _ => run_catS (x := (subs x 0 (4 : Int))) (y := (subs y (4 : Int) ((y).size : Int))) (by omega))) ?_
  clear hF; intro a hF
  refine ha_y 5 hF rfl rfl rfl (wn_none rfl) (.inr hSS) (yl_assign hF rfl rfl) ?_
  clear hF; intro a hF
  refine ha_done (by kernel_rfl) ?_ _
  refine then_n ?_
  refine wp_ret ?_
  refine ret_t hF rfl rfl ?_
  exact ⟨_, rfl, rfl, (hS.sub [] (by decide) (by first | rfl | simp) (by simp))⟩

end Go.Proofs.Ytlhcpeolkkadbaa

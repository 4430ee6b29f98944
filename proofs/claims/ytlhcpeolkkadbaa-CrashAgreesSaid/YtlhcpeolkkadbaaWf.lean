/- walks, printed by wip/gen -/
import Derived.Test.YtlhcpeolkkadbaaWc
namespace Go.Proofs.Ytlhcpeolkkadbaa
open Go.RowKit
set_option linter.unusedVariables false
set_option linter.unusedSimpArgs false

set_option maxRecDepth 100000 in
theorem torn_any (mv : Value) (M : List ByteArray) (i : Nat) (w0 : World) (hm : Rd w0 1 mv (M).length (cells encS (M))) (hall : ∀ x ∈ M, (x.size : Int) = 8) (hi : 1 ≤ i ∧ i < M.length) (hM : M.length ≤ 9000000) :
    Fn Try.prog 39 #[mv, .int .i64 ((i : Nat) : Int)] w0 (fun v w' => ∃ (a b : ByteArray), M[i]? = some a ∧ M[i - 1]? = some b ∧ v = .string (tornF a b) ∧ Sat w0 w' []) := by
  obtain ⟨Amv, cmv, rfl⟩ := Rd.form hm
  refine c_enter (N := 17) (l := [_, _]) Try.func39 rfl rfl (fun a w hF hS => ?_)
  replace hS := hS.addRo hm
  refine c_seq ?_
  refine c_region ?_
  refine seq_yl hF (wn_none rfl) rfl rfl (yl_assign hF rfl rfl) ?_
  clear hF; intro a hF
  refine wpList_nil ?_
  refine then_n ?_
  refine c_seq ?_
  refine ha_startS hS [0] 13 (by kernel_rfl) ?_; clear hS; intro w hS
  have hSS := hS.sub [0] (by decide) rfl (by simp)
  refine ha_y 0 hF rfl rfl rfl (wn_none rfl) (.inr hSS) (yl_move hF rfl rfl) ?_
  clear hF; intro a hF
  refine ha_y 1 hF rfl rfl rfl (wn_none rfl) (.inr hSS) (yl_move hF rfl rfl) ?_
  clear hF; intro a hF
  have hlt_hx287 : i < (M).length := by first | omega | (simp; done) | (simp; omega)
  obtain ⟨ad288, rfl⟩ := rd_some (hS.rdRo 0 rfl) hlt_hx287
  obtain ⟨x287, hx287⟩ := get_some hlt_hx287
  have hb_x287 := hall x287 (List.mem_of_getElem? hx287)
  refine ha_y 2 hF rfl rfl rfl (wn_none rfl) (.inr hSS) (yl_indexAddr hF rfl rfl rfl (fun _ => run_idx' sl52 sz9 (hS.rdRo 0 rfl) hlt_hx287)) ?_
  clear hF; intro a hF
  refine ha_y 5 hF rfl rfl rfl (wn_none rfl) (.inr hSS) (yl_move hF rfl rfl) ?_
  clear hF; intro a hF
  refine ha_y 6 hF rfl rfl rfl (wn_none rfl) (.inr hSS) (yl_move hF rfl rfl) ?_
  clear hF; intro a hF
  refine ha_y 7 hF rfl rfl rfl (wn_none rfl) (.inr hSS) (yl_bin hF rfl rfl rfl rfl (fun _ => run_dec (c := 1) (by omega) (by omega))) ?_
  clear hF; intro a hF
  have hlt_hx289 : (i - 1) < (M).length := by first | omega | (simp; done) | (simp; omega)
  obtain ⟨x289, hx289⟩ := get_some hlt_hx289
  have hb_x289 := hall x289 (List.mem_of_getElem? hx289)
  refine ha_y 8 hF rfl rfl rfl (wn_none rfl) (.inr hSS) (yl_indexAddr hF rfl rfl rfl (fun _ => run_idx' sl52 sz9 (hS.rdRo 0 rfl) hlt_hx289)) ?_
  clear hF; intro a hF
  refine ha_l 3 hF rfl rfl rfl (wn_none rfl) hSS (yl_loadAt hF rfl rfl ag9 (fun _ h => rd_cell0 (enc := encS) (Sat.rdRo h 0 rfl) encS_len hx287 rfl rfl)) ?_
  clear hF; intro a hF
  have hz290 := subs_size (s := x287) (i := 0) (j := (4 : Int)) (by omega) (by omega) (by omega)
  refine ha_y 4 hF rfl rfl rfl (wn_none rfl) (.inr hSS) (yl_subsH (s := x287) (j := (4 : Int)) hF rfl rfl rfl Try.underlying9 (by omega) (by omega)) ?_
  clear hF; intro a hF
  refine ha_l 9 hF rfl rfl rfl (wn_none rfl) hSS (yl_loadAt hF rfl rfl ag9 (fun _ h => rd_cell0 (enc := encS) (Sat.rdRo h 0 rfl) encS_len hx289 rfl rfl)) ?_
  clear hF; intro a hF
  have hz291 := subs_size (s := x289) (i := (4 : Int)) (j := ((x289).size : Int)) (by omega) (by omega) (by omega)
  refine ha_y 10 hF rfl rfl rfl (wn_none rfl) (.inr hSS) (yl_subsL (s := x289) (i := (4 : Int)) hF rfl rfl rfl Try.underlying9 (by omega) (by omega)) ?_
  clear hF; intro a hF
  have hz292 := cat_size (subs x287 0 (4 : Int)) (subs x289 (4 : Int) ((x289).size : Int))
  refine ha_y 11 hF rfl rfl rfl (wn_none rfl) (.inr hSS) (yl_bin hF rfl rfl rfl rfl (fun _ => run_catS (x := (subs x287 0 (4 : Int))) (y := (subs x289 (4 : Int) ((x289).size : Int))) (by omega))) ?_
  clear hF; intro a hF
  refine ha_y 12 hF rfl rfl rfl (wn_none rfl) (.inr hSS) (yl_assign hF rfl rfl) ?_
  clear hF; intro a hF
  refine ha_done (by kernel_rfl) ?_ _
  refine then_n ?_
  refine wp_ret ?_
  refine ret_t hF rfl rfl ?_
  exact ⟨_, rfl, _, _, hx287, hx289, rfl, (hS.sub [] (by decide) (by first | rfl | simp) (by simp))⟩

end Go.Proofs.Ytlhcpeolkkadbaa

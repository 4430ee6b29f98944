/- walks, printed by wip/gen -/
import Derived.Test.YtiifpgkdgnoafaaP2
namespace Go.Proofs.Ytiifpgkdgnoafaa
open Go.RowKit
set_option linter.unusedVariables false
set_option linter.unusedSimpArgs false

theorem lim_wrong {G : List E36} {i : Nat} {k : Int} (hc : chkG G = true) (hi : i < G.length) (hk : 0 ≤ k ∧ k ≤ 64) : wrongF G (i : Int) k = 0 := (wrong_0 hc ⟨by omega, by omega, hk.1, hk.2⟩).symm
theorem lim_at {G : List E36} {i : Nat} {x : E36} (hx : G[i]? = some x) : atG G (i : Int) = x := atG_get (by simpa using hx)
theorem lim_ov {G : List E36} {i : Nat} {k : Int} {x : E36} (hc : chkG G = true) (hx : G[i]? = some x) (hk : 0 ≤ k ∧ k ≤ 64) : ovF G (i : Int) k = max (k - (x.f0 - x.f2)) 0 := by
  unfold ovF; rw [if_pos (lim_wrong hc (List.getElem?_eq_some_iff.1 hx).1 hk), lim_at hx]
theorem lim_ch {G : List E36} {i : Nat} {k : Int} {x : E36} (hc : chkG G = true) (hx : G[i]? = some x) (hk : 0 ≤ k ∧ k ≤ 64) : chF G (i : Int) k = if x.f0 - x.f2 < k then (G, 3) else (G.set i ⟨x.f0, x.f1, x.f2 + k⟩, 0) := by
  unfold chF; rw [if_pos (lim_wrong hc (List.getElem?_eq_some_iff.1 hx).1 hk), lim_at hx]; simp
theorem lim_un {G : List E36} {i : Nat} {k : Int} {x : E36} (hc : chkG G = true) (hx : G[i]? = some x) (hk : 0 ≤ k ∧ k ≤ 64) : unF G (i : Int) k = if x.f2 < k then (G, 4) else (G.set i ⟨x.f0, x.f1, x.f2 - k⟩, 0) := by
  unfold unF; rw [if_pos (lim_wrong hc (List.getElem?_eq_some_iff.1 hx).1 hk), lim_at hx]; simp
theorem chk_set {G : List E36} {i : Nat} {y : E36} (hc : chkG G = true) (hy : okG y) : chkG (G.set i y) = true := by
  obtain ⟨h1, h2, h3⟩ := chkG_inv hc
  unfold chkG; rw [Bool.and_true, decide_eq_true_eq]
  refine ⟨fun e he => ?_, by simpa using h2, by simpa using h3⟩
  rcases List.mem_or_eq_of_mem_set he with he | rfl
  · exact h1 e he
  · exact hy
theorem lim_two {G : List E36} {i : Nat} {k : Int} {x : E36} (hc : chkG G = true) (hx : G[i]? = some x) (hk : 0 ≤ k ∧ k ≤ 64) (h0 : ¬ ovF G (i : Int) k = 0) (h1 : ¬ x.f2 < ovF G (i : Int) k) :
    (unF G (i : Int) (ovF G (i : Int) k)).2 = 0 ∧ (chF (unF G (i : Int) (ovF G (i : Int) k)).1 (i : Int) k).2 = 0 ∧ ∃ z, (chF (unF G (i : Int) (ovF G (i : Int) k)).1 (i : Int) k).1[i]? = some z ∧ z.f2 = x.f0 := by
  have hov := lim_ov hc hx hk
  have hok := (chkG_inv hc).1 x (List.mem_of_getElem? hx)
  have hi := (List.getElem?_eq_some_iff.1 hx).1
  unfold okG at hok
  have hu : unF G (i : Int) (ovF G (i : Int) k) = (G.set i ⟨x.f0, x.f1, x.f2 - ovF G (i : Int) k⟩, 0) := by
    rw [lim_un hc hx (by omega), if_neg h1]
  rw [hu]
  have hx2 : (G.set i ⟨x.f0, x.f1, x.f2 - ovF G (i : Int) k⟩)[i]? = some ⟨x.f0, x.f1, x.f2 - ovF G (i : Int) k⟩ := by simp [hi]
  have hc2 : chkG (G.set i ⟨x.f0, x.f1, x.f2 - ovF G (i : Int) k⟩) = true := chk_set hc (by unfold okG; simp only; omega)
  have hch := lim_ch hc2 hx2 hk
  simp only at hch
  rw [if_neg (by omega)] at hch
  rw [hch]
  refine ⟨rfl, rfl, ⟨x.f0, x.f1, x.f2 - ovF G (i : Int) k + k⟩, by simp [hi], ?_⟩
  simp only; omega
theorem lim_one {G : List E36} {i : Nat} {k : Int} {x : E36} (hc : chkG G = true) (hx : G[i]? = some x) (hk : 0 ≤ k ∧ k ≤ 64) : ((chF G (i : Int) k).2 = 0 ↔ ovF G (i : Int) k = 0) ∧ 0 ≤ ovF G (i : Int) k ∧ ovF G (i : Int) k ≤ 128 := by
  have hov := lim_ov hc hx hk
  have hok := (chkG_inv hc).1 x (List.mem_of_getElem? hx)
  unfold okG at hok
  have hch := lim_ch hc hx hk
  by_cases h : x.f0 - x.f2 < k
  · rw [if_pos h] at hch
    rw [hch]
    refine ⟨⟨fun e => ?_, fun e => ?_⟩, by omega, by omega⟩
    · exact absurd (show (3 : Int) = 0 from e) (by decide)
    · omega
  · rw [if_neg h] at hch
    rw [hch]
    exact ⟨⟨fun _ => by omega, fun _ => rfl⟩, by omega, by omega⟩

end Go.Proofs.Ytiifpgkdgnoafaa

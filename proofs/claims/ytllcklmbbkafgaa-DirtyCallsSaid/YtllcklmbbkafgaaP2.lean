/- walks, printed by wip/gen -/
import Derived.Test.YtllcklmbbkafgaaP
namespace Go.Proofs.Ytllcklmbbkafgaa
open Go.RowKit
set_option linter.unusedVariables false
set_option linter.unusedSimpArgs false

theorem err_0 {L : List Int} {p q d n : Int} (h : chkF L p q = true) (h2 : 0 ≤ d ∧ d < L.length ∧ 0 ≤ n ∧ n ≤ 64) : errF L p q d n = 0 := by
  have : inF L d n = true := decide_eq_true h2
  simp [errF, h, this]
theorem chk_st {L : List Int} {p q d n : Int} (h : chkF L p q = true) : chkF (stF L p q d n).1 p (stF L p q d n).2 = true := by
  obtain ⟨hCI, h1, h2, h3, h4⟩ := CI_of h
  have hl := stF_len L p q d n
  have hh : CI L.length p (stF L p q d n) := by
    unfold stF
    cases chkF L p q && inF L d n with
    | true => exact crun_inv h1 hCI _
    | false => exact hCI
  obtain ⟨-, h5, h6, h7⟩ := hh
  unfold chkF; rw [Bool.and_true, decide_eq_true_eq]
  exact ⟨h5, by omega, by omega, h1, h2, h6, h7⟩
theorem chk_new {N P : Int} (hN : 1 ≤ N ∧ N ≤ 4) (hP : 1 ≤ P ∧ P ≤ 1000000) : chkF (List.replicate N.toNat (0 : Int)) P P = true := by
  unfold chkF; rw [Bool.and_true, decide_eq_true_eq]
  refine ⟨fun e he => ?_, by simp; omega, by simp; omega, hP.1, hP.2, hP.1, Int.le_refl _⟩
  have := List.eq_of_mem_replicate he; omega
theorem sh_val {L : List Int} {p q l x : Int} {k : Nat} (hc : chkF L p q = true) (hl : 0 ≤ l ∧ l ≤ 64) (hx : L[k]? = some x) : shareF L p q (k : Int) l = if l ≤ 5 then l else 5 + (l - 5) * (x + 1) / (L.sum + L.length) := by
  have hk := (List.getElem?_eq_some_iff.1 hx).1
  by_cases h5 : l ≤ 5
  · rw [if_pos h5, ← sh_3 hc ⟨by omega, by omega, hl.1, hl.2⟩ h5]
  · rw [if_neg h5, ← sh_4 (x := x) hc ⟨by omega, by omega, hl.1, hl.2⟩ h5 (by simpa using hx)]
theorem sh_bounds {L : List Int} {p q l : Int} {k : Nat} (hc : chkF L p q = true) (hl : 0 ≤ l ∧ l ≤ 64) (hk : k < L.length) : min 5 l ≤ shareF L p q (k : Int) l ∧ shareF L p q (k : Int) l ≤ l := by
  rw [sh_val hc hl (List.getElem?_eq_getElem hk)]
  by_cases h5 : l ≤ 5
  · rw [if_pos h5]; omega
  · rw [if_neg h5]
    have := sh_q (l := l - 5) hc (by omega) (List.getElem?_eq_getElem hk)
    omega
theorem sh_mono {L : List Int} {p q l x y : Int} {i k : Nat} (hc : chkF L p q = true) (hl : 0 ≤ l ∧ l ≤ 64) (hx : L[i]? = some x) (hy : L[k]? = some y) (hxy : y ≤ x) : shareF L p q (k : Int) l ≤ shareF L p q (i : Int) l := by
  rw [sh_val hc hl hx, sh_val hc hl hy]
  obtain ⟨⟨_, hm, _⟩, _, _, h1, h4⟩ := CI_of hc
  have hs : 0 ≤ L.sum := (sum_in hm).1
  by_cases h5 : l ≤ 5
  · rw [if_pos h5, if_pos h5]; omega
  · rw [if_neg h5, if_neg h5]
    have h2 : (l - 5) * (y + 1) ≤ (l - 5) * (x + 1) := Int.mul_le_mul_of_nonneg_left (by omega) (by omega)
    have := Int.ediv_le_ediv (c := L.sum + (L.length : Int)) (by omega) h2
    omega
def shSum (L : List Int) (p q l : Int) : Nat → Int
  | 0 => 0
  | k + 1 => shSum L p q l k + shareF L p q (k : Int) l
theorem shSum_in {L : List Int} {p q l : Int} (hc : chkF L p q = true) (hl : 0 ≤ l ∧ l ≤ 64) : ∀ k, k ≤ L.length → 0 ≤ shSum L p q l k ∧ shSum L p q l k ≤ 64 * k
  | 0, _ => by simp [shSum]
  | k + 1, h => by
    have h1 := shSum_in hc hl k (by omega)
    have h2 := sh_bounds hc hl (k := k) (by omega)
    simp only [shSum]; omega
theorem shSum_hi {L : List Int} {p q l : Int} (hc : chkF L p q = true) (hl : 0 ≤ l ∧ l ≤ 64) (h5 : ¬ l ≤ 5) : ∀ k, k ≤ L.length → shSum L p q l k ≤ 5 * k + (l - 5) * ((L.take k).sum + k) / (L.sum + L.length)
  | 0, _ => by simp [shSum]
  | k + 1, h => by
    have h1 := shSum_hi hc hl h5 k (by omega)
    have hx := List.getElem?_eq_getElem (l := L) (i := k) (by omega)
    have h2 := sh_val hc hl hx
    rw [if_neg h5] at h2
    obtain ⟨⟨_, hm, _⟩, _, _, h3, h4⟩ := CI_of hc
    have hs : 0 ≤ L.sum := (sum_in hm).1
    have hpos : 0 < L.sum + (L.length : Int) := by omega
    rw [sum_step hx]
    simp only [shSum]
    have e : (l - 5) * ((L.take k).sum + L[k] + ((k + 1 : Nat) : Int)) = (l - 5) * ((L.take k).sum + k) + (l - 5) * (L[k] + 1) := by
      rw [← Int.mul_add]; congr 1; omega
    rw [e]
    have h6 := Int.mul_ediv_self_le (x := (l - 5) * ((L.take k).sum + k)) (k := L.sum + (L.length : Int)) (by omega)
    have h7 := Int.mul_ediv_self_le (x := (l - 5) * (L[k] + 1)) (k := L.sum + (L.length : Int)) (by omega)
    have h8 : (l - 5) * ((L.take k).sum + k) / (L.sum + L.length) + (l - 5) * (L[k] + 1) / (L.sum + L.length) ≤ ((l - 5) * ((L.take k).sum + k) + (l - 5) * (L[k] + 1)) / (L.sum + L.length) := by
      apply (Int.le_ediv_iff_mul_le hpos).2
      rw [Int.add_mul, Int.mul_comm _ (L.sum + (L.length : Int)), Int.mul_comm _ (L.sum + (L.length : Int))]
      omega
    omega
theorem shSum_top {L : List Int} {p q l : Int} (hc : chkF L p q = true) (hl : 0 ≤ l ∧ l ≤ 64) : shSum L p q l L.length ≤ l + 5 * ((L.length : Int) - 1) := by
  obtain ⟨⟨_, hm, _⟩, _, _, h3, h4⟩ := CI_of hc
  have hs : 0 ≤ L.sum := (sum_in hm).1
  by_cases h5 : l ≤ 5
  · have h1 : ∀ k, k ≤ L.length → shSum L p q l k = l * k := by
      intro k
      induction k with
      | zero => intro _; simp [shSum]
      | succ k ih =>
        intro h
        have h2 := sh_val (k := k) hc hl (List.getElem?_eq_getElem (by omega))
        rw [if_pos h5] at h2
        simp only [shSum]
        rw [ih (by omega), h2, show ((k + 1 : Nat) : Int) = (k : Int) + 1 by omega, Int.mul_add, Int.mul_one]
    rw [h1 _ (Nat.le_refl _)]
    have : l * ((L.length : Int) - 1) ≤ 5 * ((L.length : Int) - 1) := Int.mul_le_mul_of_nonneg_right h5 (by omega)
    rw [Int.mul_sub, Int.mul_one] at this
    omega
  · have h1 := shSum_hi hc hl h5 L.length (Nat.le_refl _)
    rw [List.take_length, Int.mul_ediv_cancel _ (by omega)] at h1
    omega
def newL (d n : Int) : List Int := bif newOk d n then List.replicate d.toNat 0 else []
def newN (d n : Int) : Int := bif newOk d n then n else 0
def newE (d n : Int) : Int := bif newOk d n then 0 else 2
theorem newL_len (d n : Int) : (newL d n).length ≤ 4 := by
  unfold newL
  cases h : newOk d n with
  | true => have := of_decide_eq_true h; simp; omega
  | false => simp

end Go.Proofs.Ytllcklmbbkafgaa

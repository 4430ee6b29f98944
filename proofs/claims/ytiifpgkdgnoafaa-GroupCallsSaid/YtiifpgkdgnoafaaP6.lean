/- walks, printed by wip/gen -/
import Derived.Test.YtiifpgkdgnoafaaP4
namespace Go.Proofs.Ytiifpgkdgnoafaa
open Go.RowKit
set_option linter.unusedVariables false
set_option linter.unusedSimpArgs false

/- fairness of Divide, as long as there is an excess -/
def sumE (L : List E36) : Int := (L.map exF).sum
theorem sumE_step {L : List E36} {k : Nat} {x : E36} (hx : L[k]? = some x) : sumE (L.take (k + 1)) = sumE (L.take k) + exF x := by
  unfold sumE; rw [List.take_add_one, hx]; simp
theorem sumE_le : ∀ {L : List E36}, (∀ e ∈ L, okG e) → sumE L ≤ allC L
  | [], _ => by simp [sumE, allC]
  | x :: r, h => by
    have ih := sumE_le (L := r) (fun e he => h e (List.mem_cons_of_mem _ he))
    have := exF_le (h x (by simp))
    simp only [sumE, allC, List.map_cons, List.sum_cons] at ih ⊢
    omega
theorem sumE_full : ∀ {L : List E36} {S : List Int}, (∀ (j : Nat) (x : E36), L[j]? = some x → exF x - (S[j]?).getD 0 ≤ 0) → L.length ≤ S.length → sumE L ≤ (S.take L.length).sum
  | [], S, _, _ => by simp [sumE]
  | x :: r, [], _, h => by simp at h
  | x :: r, s :: t, h, hl => by
    have h0 := h 0 x rfl
    have ih := sumE_full (L := r) (S := t) (fun j y hy => by simpa using h (j + 1) y (by simpa using hy)) (by simpa using hl)
    simp at h0
    simp only [sumE, List.map_cons, List.sum_cons, List.length_cons, List.take_succ_cons] at ih ⊢
    omega
structure Fw (L : List E36) (S : List Int) : Prop where
  le : ∀ (j : Nat) (x : E36), L[j]? = some x → (S[j]?).getD 0 ≤ exF x
  fair : ∀ (i j : Nat) (x y : E36), L[i]? = some x → L[j]? = some y → 0 < (S[i]?).getD 0 → exF y - (S[j]?).getD 0 ≤ exF x - (S[i]?).getD 0 + 1
theorem getD_set {S : List Int} {i j : Nat} {v : Int} (hj : j < S.length) : ((S.set j v)[i]?).getD 0 = if i = j then v else (S[i]?).getD 0 := by
  by_cases h : i = j
  · subst h; rw [if_pos rfl, List.getElem?_set_self hj]; rfl
  · rw [if_neg h, List.getElem?_set_ne (fun e => h e.symm)]
theorem fw_run {L : List E36} (hL : L.length ≤ 4) (hok : ∀ e ∈ L, okG e) : ∀ n : Nat, (n : Int) ≤ sumE L → Fw L (divRun L n [0, 0, 0, 0])
  | 0, _ => by
    have hz := wi_zero hok
    have e : ∀ j : Nat, (([0, 0, 0, 0] : List Int)[j]?).getD 0 = 0 := fun j => by rcases j with _ | _ | _ | _ | j <;> rfl
    refine ⟨fun j x hx => ?_, fun i j x y hx hy h => ?_⟩
    · show (([0, 0, 0, 0] : List Int)[j]?).getD 0 ≤ _
      rw [e]; exact (exF_in (hok x (List.mem_of_getElem? hx))).1
    · have h' : 0 < (([0, 0, 0, 0] : List Int)[i]?).getD 0 := h
      rw [e] at h'; omega
  | n + 1, hn => by
    have ih := fw_run hL hok n (by omega)
    have hw := wi_run hL hok n
    have hsum := run_sum hL hok n
    have hle := sumE_le hok
    rw [run_succ]
    unfold divStep
    rcases more_cases (h := exF) (S := divRun L n [0, 0, 0, 0]) (L := L) with ⟨h1, h2⟩ | ⟨j, x, hx, h1, h2, h3⟩
    · have := sumE_full h2 (by rw [hw.len]; exact hL)
      omega
    · have hj := (List.getElem?_eq_some_iff.1 hx).1
      have hj4 : j < (divRun L n [0, 0, 0, 0]).length := by rw [hw.len]; omega
      have hne := set_ne hj4
      rw [h3, if_neg hne]
      refine ⟨fun i y hy => ?_, fun i l y z hy hz h => ?_⟩
      · rw [getD_set hj4]
        split
        · rename_i e; subst e; rw [hx] at hy; injection hy with hy; subst hy; omega
        · exact ih.le i y hy
      · rw [getD_set hj4] at h ⊢
        rw [getD_set hj4]
        have h4 := h2 l z hz
        by_cases hi : i = j
        · subst hi
          rw [hx] at hy; injection hy with hy; subst hy
          rw [if_pos rfl]
          split
          · rename_i e; subst e; rw [hx] at hz; injection hz with hz; subst hz; omega
          · omega
        · rw [if_neg hi] at h ⊢
          have h5 := ih.fair i l y z hy hz h
          split
          · rename_i e; subst e; omega
          · exact h5
theorem divF_at {L : List E36} {n : Int} {i : Nat} {x : Int} (h : chkG L = true) (hn : 0 ≤ n) (hx : (divF L n)[i]? = some x) : i < L.length ∧ ((divRun L n.toNat [0, 0, 0, 0])[i]?).getD 0 = x := by
  have hi : i < L.length := by have := (List.getElem?_eq_some_iff.1 hx).1; rwa [divF_len h hn] at this
  rw [divF_yes h hn, List.getElem?_take_of_lt hi] at hx
  exact ⟨hi, by rw [hx]; rfl⟩
theorem divF_le {L : List E36} {n : Int} {i : Nat} {d : Int} {x : E36} (h : chkG L = true) (hn : 0 ≤ n) (hd : (divF L n)[i]? = some d) (hx : L[i]? = some x) : 0 ≤ d ∧ d ≤ x.f2 := by
  obtain ⟨hok, h1, h4⟩ := chkG_inv h
  obtain ⟨_, hr⟩ := divF_at h hn hd
  have := (wi_run h4 hok n.toNat).at_ i x hx
  omega
theorem divF_low {L : List E36} {n : Int} {i : Nat} {d : Int} {x : E36} (h : chkG L = true) (hn : 0 ≤ n) (hs : n ≤ sumE L) (hd : (divF L n)[i]? = some d) (hx : L[i]? = some x) : d ≤ exF x := by
  obtain ⟨hok, h1, h4⟩ := chkG_inv h
  obtain ⟨_, hr⟩ := divF_at h hn hd
  have := (fw_run h4 hok n.toNat (by omega)).le i x hx
  omega
theorem divF_fair {L : List E36} {n : Int} {i j : Nat} {d e : Int} {x y : E36} (h : chkG L = true) (hn : 0 ≤ n) (hs : n ≤ sumE L) (hd : (divF L n)[i]? = some d) (he : (divF L n)[j]? = some e) (hx : L[i]? = some x) (hy : L[j]? = some y) (h0 : 0 < d) : exF y - e ≤ exF x - d + 1 := by
  obtain ⟨hok, h1, h4⟩ := chkG_inv h
  obtain ⟨_, hr⟩ := divF_at h hn hd
  obtain ⟨_, hr2⟩ := divF_at h hn he
  have := (fw_run h4 hok n.toNat (by omega)).fair i j x y hx hy (by omega)
  omega

end Go.Proofs.Ytiifpgkdgnoafaa

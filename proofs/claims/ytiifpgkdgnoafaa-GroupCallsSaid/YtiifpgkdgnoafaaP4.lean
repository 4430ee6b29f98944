/- walks, printed by wip/gen -/
import Derived.Test.YtiifpgkdgnoafaaP3
namespace Go.Proofs.Ytiifpgkdgnoafaa
open Go.RowKit
set_option linter.unusedVariables false
set_option linter.unusedSimpArgs false

/- what a step of Divide does: one place grows by one, within the charges -/
def within (S : List Int) (L : List E36) : Prop := S.length = 4 ∧ ∀ (j : Nat) (x : E36), L[j]? = some x → 0 ≤ (S[j]?).getD 0 ∧ (S[j]?).getD 0 ≤ x.f2
theorem best_at {h : E36 → Int} {S : List Int} {L : List E36} : ∀ k, k ≤ L.length → (bestF h S L k).1 < k ∧ -1 ≤ (bestF h S L k).1 ∧ 0 ≤ (bestF h S L k).2 ∧
    (∀ j x, j < k → L[j]? = some x → h x - (S[j]?).getD 0 ≤ (bestF h S L k).2) ∧
    (0 ≤ (bestF h S L k).1 → ∃ x, L[(bestF h S L k).1.toNat]? = some x ∧ (bestF h S L k).2 = h x - (S[(bestF h S L k).1.toNat]?).getD 0 ∧ 0 < (bestF h S L k).2) ∧
    ((bestF h S L k).1 < 0 → (bestF h S L k).2 = 0)
  | 0, _ => by simp [bestF]
  | k + 1, hk => by
    obtain ⟨h1, h2, h3, h4, h5, h6⟩ := best_at (h := h) (S := S) (L := L) k (by omega)
    have hx := List.getElem?_eq_getElem (l := L) (i := k) (by omega)
    unfold bestF
    rw [hx]
    simp only [Option.getD_some]
    by_cases hl : (bestF h S L k).2 < h L[k] - (S[k]?).getD 0
    · rw [if_pos hl]
      refine ⟨by simp only; omega, by simp only; omega, by simp only; omega, fun j x hj hjx => ?_, fun _ => ⟨L[k], by simp, by simp, by simp only; omega⟩, fun hn => by simp only at hn; omega⟩
      simp only
      by_cases hjk : j = k
      · subst hjk; rw [hx] at hjx; injection hjx with hjx; subst hjx; omega
      · have := h4 j x (by omega) hjx; omega
    · rw [if_neg hl]
      refine ⟨by omega, h2, h3, fun j x hj hjx => ?_, h5, h6⟩
      by_cases hjk : j = k
      · subst hjk; rw [hx] at hjx; injection hjx with hjx; subst hjx; omega
      · exact h4 j x (by omega) hjx
theorem more_cases {h : E36 → Int} {S : List Int} {L : List E36} :
    (moreF h S L = S ∧ ∀ (j : Nat) (x : E36), L[j]? = some x → h x - (S[j]?).getD 0 ≤ 0) ∨
    (∃ (j : Nat) (x : E36), L[j]? = some x ∧ 0 < h x - (S[j]?).getD 0 ∧ (∀ (i : Nat) (y : E36), L[i]? = some y → h y - (S[i]?).getD 0 ≤ h x - (S[j]?).getD 0) ∧ moreF h S L = S.set j ((S[j]?).getD 0 + 1)) := by
  obtain ⟨h1, h2, h3, h4, h5, h6⟩ := best_at (h := h) (S := S) (L := L) L.length (Nat.le_refl _)
  unfold moreF
  by_cases h0 : 0 ≤ (bestF h S L L.length).1
  · obtain ⟨x, hx, hm, hp⟩ := h5 h0
    refine .inr ⟨_, x, hx, by omega, fun i y hy => ?_, by rw [if_pos h0]⟩
    have := h4 i y (List.getElem?_eq_some_iff.1 hy).1 hy
    omega
  · refine .inl ⟨by rw [if_neg h0], fun j x hx => ?_⟩
    have := h4 j x (List.getElem?_eq_some_iff.1 hx).1 hx
    have := h6 (by omega)
    omega
theorem exF_le {x : E36} (h : okG x) : exF x ≤ x.f2 := by
  unfold okG at h; unfold exF; split <;> omega
theorem set_ne {S : List Int} {j : Nat} (hj : j < S.length) : S.set j ((S[j]?).getD 0 + 1) ≠ S := by
  intro e
  have h1 : (S.set j ((S[j]?).getD 0 + 1))[j]? = some ((S[j]?).getD 0 + 1) := by simp [hj]
  rw [e, List.getElem?_eq_getElem hj] at h1
  simp at h1
  omega
theorem step_cases {S : List Int} {L : List E36} (hS : S.length = 4) (hL : L.length ≤ 4) (hok : ∀ e ∈ L, okG e) :
    (divStep L S = S ∧ ∀ (j : Nat) (x : E36), L[j]? = some x → x.f2 ≤ (S[j]?).getD 0) ∨
    (∃ (j : Nat) (x : E36), L[j]? = some x ∧ (S[j]?).getD 0 < x.f2 ∧ divStep L S = S.set j ((S[j]?).getD 0 + 1) ∧ divStep L S ≠ S) := by
  unfold divStep
  rcases more_cases (h := exF) (S := S) (L := L) with ⟨h1, h2⟩ | ⟨j, x, hx, h1, h2, h3⟩
  · rw [if_pos h1]
    rcases more_cases (h := E36.f2) (S := S) (L := L) with ⟨h4, h5⟩ | ⟨j, x, hx, h4, h5, h6⟩
    · exact .inl ⟨h4, fun j x hx => by have := h5 j x hx; omega⟩
    · have hj := (List.getElem?_eq_some_iff.1 hx).1
      refine .inr ⟨j, x, hx, by omega, h6, ?_⟩
      rw [h6]; exact set_ne (by omega)
  · have hj := (List.getElem?_eq_some_iff.1 hx).1
    have hn : S.set j ((S[j]?).getD 0 + 1) ≠ S := set_ne (by omega)
    have he := exF_le (hok x (List.mem_of_getElem? hx))
    rw [h3, if_neg hn]
    exact .inr ⟨j, x, hx, by omega, rfl, hn⟩
theorem run_succ {L : List E36} : ∀ (n : Nat) (S : List Int), divRun L (n + 1) S = divStep L (divRun L n S)
  | 0, S => by
    show (if divStep L S = S then S else divStep L S) = _
    split
    · rename_i h; exact h.symm
    · rfl
  | n + 1, S => by
    have ih := run_succ (L := L) n (divStep L S)
    show (if divStep L S = S then S else divRun L (n + 1) (divStep L S)) = divStep L (if divStep L S = S then S else divRun L n (divStep L S))
    split
    · rename_i h; exact h.symm
    · exact ih
theorem sum_set {S : List Int} {j m : Nat} (hj : j < S.length) (hm : j < m) : ((S.set j ((S[j]?).getD 0 + 1)).take m).sum = (S.take m).sum + 1 := by
  induction S generalizing j m with
  | nil => simp at hj
  | cons a r ih =>
    cases m with
    | zero => omega
    | succ m =>
      cases j with
      | zero => simp; omega
      | succ j =>
        have := ih (j := j) (m := m) (by simpa using hj) (by omega)
        simp only [List.set_cons_succ, List.take_succ_cons, List.sum_cons, List.getElem?_cons_succ]
        omega
structure Wi (L : List E36) (S : List Int) : Prop where
  len : S.length = 4
  at_ : ∀ (j : Nat) (x : E36), L[j]? = some x → 0 ≤ (S[j]?).getD 0 ∧ (S[j]?).getD 0 ≤ x.f2
theorem wi_step {L : List E36} {S : List Int} (hL : L.length ≤ 4) (hok : ∀ e ∈ L, okG e) (h : Wi L S) : Wi L (divStep L S) := by
  rcases step_cases h.len hL hok with ⟨h1, _⟩ | ⟨j, x, hx, h1, h2, _⟩
  · rw [h1]; exact h
  · rw [h2]
    refine ⟨by simp [h.len], fun i y hy => ?_⟩
    by_cases hij : i = j
    · subst hij
      rw [hx] at hy; injection hy with hy; subst hy
      have hj := (List.getElem?_eq_some_iff.1 hx).1
      have := h.at_ _ _ hx
      have e : (S.set i ((S[i]?).getD 0 + 1))[i]? = some ((S[i]?).getD 0 + 1) := List.getElem?_set_self (by rw [h.len]; omega)
      rw [e]; simp only [Option.getD_some]; omega
    · rw [List.getElem?_set_ne (fun e => hij e.symm)]; exact h.at_ i y hy
theorem wi_zero {L : List E36} (hok : ∀ e ∈ L, okG e) : Wi L [0, 0, 0, 0] := by
  refine ⟨rfl, fun j x hx => ?_⟩
  have := hok x (List.mem_of_getElem? hx)
  unfold okG at this
  have e : (([0, 0, 0, 0] : List Int)[j]?).getD 0 = 0 := by
    rcases j with _ | _ | _ | _ | j <;> rfl
  rw [e]; omega
theorem wi_run {L : List E36} (hL : L.length ≤ 4) (hok : ∀ e ∈ L, okG e) : ∀ n, Wi L (divRun L n [0, 0, 0, 0])
  | 0 => wi_zero hok
  | n + 1 => by rw [run_succ]; exact wi_step hL hok (wi_run hL hok n)
def allC (L : List E36) : Int := (L.map E36.f2).sum
theorem sum_le : ∀ {L : List E36} {S : List Int}, (∀ (j : Nat) (x : E36), L[j]? = some x → 0 ≤ (S[j]?).getD 0 ∧ (S[j]?).getD 0 ≤ x.f2) → L.length ≤ S.length → 0 ≤ (S.take L.length).sum ∧ (S.take L.length).sum ≤ allC L
  | [], S, _, _ => by simp [allC]
  | x :: r, [], _, h => by simp at h
  | x :: r, s :: t, h, hl => by
    have h0 := h 0 x rfl
    have ih := sum_le (L := r) (S := t) (fun j y hy => by simpa using h (j + 1) y (by simpa using hy)) (by simpa using hl)
    simp at h0
    simp only [allC, List.map_cons, List.sum_cons, List.length_cons, List.take_succ_cons] at ih ⊢
    omega
theorem sum_full : ∀ {L : List E36} {S : List Int}, (∀ (j : Nat) (x : E36), L[j]? = some x → x.f2 ≤ (S[j]?).getD 0) → L.length ≤ S.length → allC L ≤ (S.take L.length).sum
  | [], S, _, _ => by simp [allC]
  | x :: r, [], _, h => by simp at h
  | x :: r, s :: t, h, hl => by
    have h0 := h 0 x rfl
    have ih := sum_full (L := r) (S := t) (fun j y hy => by simpa using h (j + 1) y (by simpa using hy)) (by simpa using hl)
    simp at h0
    simp only [allC, List.map_cons, List.sum_cons, List.length_cons, List.take_succ_cons] at ih ⊢
    omega
theorem run_sum {L : List E36} (hL : L.length ≤ 4) (hok : ∀ e ∈ L, okG e) : ∀ n : Nat, ((divRun L n [0, 0, 0, 0]).take L.length).sum = min (n : Int) (allC L)
  | 0 => by
    have h := sum_le (S := [0, 0, 0, 0]) (wi_zero hok).at_ (by simpa using hL)
    have e : (([0, 0, 0, 0] : List Int).take L.length).sum = 0 := by
      have : L.length = 0 ∨ L.length = 1 ∨ L.length = 2 ∨ L.length = 3 ∨ L.length = 4 := by omega
      rcases this with h | h | h | h | h <;> rw [h] <;> rfl
    show ((([0, 0, 0, 0] : List Int)).take L.length).sum = _
    omega
  | n + 1 => by
    have ih := run_sum hL hok n
    have hw := wi_run hL hok n
    have hw2 := wi_run hL hok (n + 1)
    have h2 := sum_le hw2.at_ (by rw [hw2.len]; exact hL)
    rw [run_succ] at h2 ⊢
    rcases step_cases hw.len hL hok with ⟨h3, h4⟩ | ⟨j, x, hx, h3, h4, _⟩
    · have := sum_full h4 (by rw [hw.len]; exact hL)
      rw [h3] at h2 ⊢
      omega
    · have hj := (List.getElem?_eq_some_iff.1 hx).1
      have := sum_set (S := divRun L n [0, 0, 0, 0]) (j := j) (m := L.length) (by rw [hw.len]; omega) hj
      rw [h4] at h2 ⊢
      omega
theorem divF_no {L : List E36} {n : Int} (h : chkG L = false) : divF L n = [] := by unfold divF; rw [if_neg]; rintro ⟨h1, _⟩; rw [h] at h1; cases h1
theorem divF_yes {L : List E36} {n : Int} (h : chkG L = true) (hn : 0 ≤ n) : divF L n = (divRun L n.toNat [0, 0, 0, 0]).take L.length := by unfold divF; rw [if_pos ⟨h, hn⟩]
theorem divF_len {L : List E36} {n : Int} (h : chkG L = true) (hn : 0 ≤ n) : (divF L n).length = L.length := by
  obtain ⟨hok, h1, h4⟩ := chkG_inv h
  rw [divF_yes h hn, List.length_take, (wi_run h4 hok _).len]; omega
theorem divF_len4 (L : List E36) (n : Int) : (divF L n).length ≤ 4 := by
  cases h : chkG L with
  | false => rw [divF_no h]; simp
  | true =>
    by_cases hn : 0 ≤ n
    · rw [divF_len h hn]; exact (chkG_inv h).2.2
    · unfold divF; rw [if_neg (fun e => hn e.2)]; simp
theorem divF_sum {L : List E36} {n : Int} (h : chkG L = true) (hn : 0 ≤ n) : (divF L n).sum = min n (allC L) := by
  obtain ⟨hok, h1, h4⟩ := chkG_inv h
  rw [divF_yes h hn, run_sum h4 hok]; omega
theorem divF_next {L : List E36} {n : Int} {i : Nat} {x y : Int} (h : chkG L = true) (hn : 0 ≤ n) (hx : (divF L n)[i]? = some x) (hy : (divF L (n + 1))[i]? = some y) : x ≤ y ∧ y ≤ x + 1 := by
  obtain ⟨hok, h1, h4⟩ := chkG_inv h
  have hi : i < L.length := by have := (List.getElem?_eq_some_iff.1 hx).1; rwa [divF_len h hn] at this
  rw [divF_yes h hn, List.getElem?_take_of_lt hi] at hx
  rw [divF_yes h (by omega), List.getElem?_take_of_lt hi, show (n + 1).toNat = n.toNat + 1 by omega, run_succ] at hy
  rcases step_cases (wi_run h4 hok n.toNat).len h4 hok with ⟨h3, _⟩ | ⟨j, z, hz, h3, h5, _⟩
  · rw [h3, hx] at hy; injection hy with hy; omega
  · rw [h5] at hy
    by_cases hij : i = j
    · subst hij
      rw [List.getElem?_set_self (List.getElem?_eq_some_iff.1 hx).1, hx] at hy
      injection hy with hy; simp at hy; omega
    · rw [List.getElem?_set_ne (fun e => hij e.symm), hx] at hy; injection hy with hy; omega
theorem sumI_step {L : List Int} {k : Nat} {x : Int} (hx : L[k]? = some x) : (L.take (k + 1)).sum = (L.take k).sum + x := by
  rw [List.take_add_one, hx]; simp
theorem sumC_step {L : List E36} {k : Nat} {x : E36} (hx : L[k]? = some x) : allC (L.take (k + 1)) = allC (L.take k) + x.f2 := by
  unfold allC; rw [List.take_add_one, hx]; simp
theorem divF_in {L : List E36} {n : Int} {i : Nat} {x : Int} (h : chkG L = true) (hn : 0 ≤ n) (hx : (divF L n)[i]? = some x) : 0 ≤ x ∧ x ≤ 64 := by
  obtain ⟨hok, h1, h4⟩ := chkG_inv h
  have hi : i < L.length := by have := (List.getElem?_eq_some_iff.1 hx).1; rwa [divF_len h hn] at this
  rw [divF_yes h hn, List.getElem?_take_of_lt hi] at hx
  have hg := List.getElem?_eq_getElem hi
  have hw := (wi_run h4 hok n.toNat).at_ i _ hg
  have ho := hok _ (List.mem_of_getElem? hg)
  rw [hx] at hw
  unfold okG at ho
  simp at hw
  omega

end Go.Proofs.Ytiifpgkdgnoafaa

/- walks, printed by wip/gen -/
import Derived.Test.YtiifpgkdgnoafaaP
namespace Go.Proofs.Ytiifpgkdgnoafaa
open Go.RowKit
set_option linter.unusedVariables false
set_option linter.unusedSimpArgs false

def bestF (h : E36 → Int) (S : List Int) (L : List E36) : Nat → Int × Int
  | 0 => (-1, 0)
  | k + 1 => if (bestF h S L k).2 < h ((L[k]?).getD zG) - (S[k]?).getD 0 then ((k : Int), h ((L[k]?).getD zG) - (S[k]?).getD 0) else bestF h S L k
def moreF (h : E36 → Int) (S : List Int) (L : List E36) : List Int :=
  if 0 ≤ (bestF h S L L.length).1 then S.set (bestF h S L L.length).1.toNat ((S[(bestF h S L L.length).1.toNat]?).getD 0 + 1) else S
theorem best_yes {h : E36 → Int} {S : List Int} {L : List E36} {k : Nat} {b m c : Int} {x : E36} (hb : bestF h S L k = (b, m)) (hx : L[k]? = some x) (hc : S[k]? = some c) (hl : m < h x - c) : bestF h S L (k + 1) = ((k : Int), h x - c) := by
  simp only [bestF, hb, hx, hc, Option.getD_some]; rw [if_pos hl]
theorem best_no {h : E36 → Int} {S : List Int} {L : List E36} {k : Nat} {b m c : Int} {x : E36} (hb : bestF h S L k = (b, m)) (hx : L[k]? = some x) (hc : S[k]? = some c) (hl : ¬ m < h x - c) : bestF h S L (k + 1) = (b, m) := by
  simp only [bestF, hb, hx, hc, Option.getD_some]; rw [if_neg hl]
theorem more_no {h : E36 → Int} {S : List Int} {L : List E36} {k : Nat} {b m : Int} (hb : bestF h S L k = (b, m)) (hk : k = L.length) (h0 : ¬ 0 ≤ b) : S = moreF h S L := by
  subst hk; unfold moreF; rw [hb]; simp only; rw [if_neg h0]
theorem more_yes {h : E36 → Int} {S : List Int} {L : List E36} {k j : Nat} {b m c : Int} (hb : bestF h S L k = (b, m)) (hk : k = L.length) (h0 : b = j) (hc : S[j]? = some c) : S.set j (c + 1) = moreF h S L := by
  subst hk; subst h0; unfold moreF; rw [hb]; simp only; rw [if_pos (by omega)]; simp [hc]
theorem exF_in {x : E36} (h : okG x) : 0 ≤ exF x ∧ exF x ≤ 64 := by
  unfold okG at h; unfold exF; split <;> omega
theorem f2_in {x : E36} (h : okG x) : 0 ≤ x.f2 ∧ x.f2 ≤ 64 := by unfold okG at h; omega
theorem best_in {h : E36 → Int} {S : List Int} {L : List E36} : ∀ k, k ≤ L.length → 0 ≤ (bestF h S L k).2 ∧ (0 ≤ (bestF h S L k).1 → ∃ x ∈ L, (bestF h S L k).2 = h x - (S[(bestF h S L k).1.toNat]?).getD 0 ∧ 0 < (bestF h S L k).2)
  | 0, _ => by simp [bestF]
  | k + 1, hk => by
    have ih := best_in (h := h) (S := S) (L := L) k (by omega)
    unfold bestF
    split
    · rename_i hl
      have hx := List.getElem?_eq_getElem (l := L) (i := k) (by omega)
      refine ⟨by simp only; omega, fun _ => ⟨L[k], List.getElem_mem _, ?_, ?_⟩⟩
      · simp only [hx, Option.getD_some, Int.toNat_natCast]
      · simp only; omega
    · exact ih
theorem more_in {h : E36 → Int} {S : List Int} {L : List E36} (hh : ∀ x ∈ L, 0 ≤ h x ∧ h x ≤ 64) (hS : ∀ e ∈ S, 0 ≤ e ∧ e ≤ 64) : ∀ e ∈ moreF h S L, 0 ≤ e ∧ e ≤ 64 := by
  unfold moreF
  split
  · rename_i h0
    obtain ⟨x, hx, hm, hp⟩ := (best_in (h := h) (S := S) (L := L) L.length (Nat.le_refl _)).2 h0
    have h1 := hh x hx
    intro e he
    rcases List.mem_or_eq_of_mem_set he with he | rfl
    · exact hS e he
    · have h2 : 0 ≤ (S[(bestF h S L L.length).1.toNat]?).getD 0 := by
        cases hc : S[(bestF h S L L.length).1.toNat]? with
        | none => simp
        | some c => exact (hS c (List.mem_of_getElem? hc)).1
      omega
  · exact hS
def divStep (L : List E36) (S : List Int) : List Int := if moreF exF S L = S then moreF E36.f2 S L else moreF exF S L
def divRun (L : List E36) : Nat → List Int → List Int
  | 0, S => S
  | n + 1, S => if divStep L S = S then S else divRun L n (divStep L S)
def divF (L : List E36) (n : Int) : List Int := if chkG L = true ∧ 0 ≤ n then (divRun L n.toNat [0, 0, 0, 0]).take L.length else []
def okR (x : E36) : Prop := (-9223372036854775808 ≤ x.f0 ∧ x.f0 ≤ 9223372036854775807) ∧ (0 ≤ x.f1 ∧ x.f1 ≤ 30) ∧ (0 ≤ x.f2 ∧ x.f2 ≤ 30)
theorem okR_app {L : List E36} {x : E36} (h : ∀ e ∈ L, okR e) (hx : okR x) : ∀ e ∈ L ++ [x], okR e := by
  intro e he
  rcases List.mem_append.1 he with he | he
  · exact h e he
  · simp at he; subst he; exact hx
theorem okR_set {L : List E36} {x : E36} {k : Nat} (h : ∀ e ∈ L, okR e) (hx : okR x) : ∀ e ∈ L.set k x, okR e := by
  intro e he
  rcases List.mem_or_eq_of_mem_set he with he | rfl
  · exact h e he
  · exact hx
theorem chkG_inv {L : List E36} (h : chkG L = true) : (∀ e ∈ L, okG e) ∧ 1 ≤ L.length ∧ L.length ≤ 4 := by
  unfold chkG at h; rw [Bool.and_true, decide_eq_true_eq] at h; exact h
theorem div_stepA {L : List E36} {S C : List Int} (h : C = moreF exF S L) (hn : ¬ C = S) : divStep L S = C := by
  unfold divStep; rw [← h, if_neg hn]
theorem div_stepB {L : List E36} {S C D : List Int} (h : C = moreF exF S L) (hn : C = S) (hD : D = moreF E36.f2 S L) : divStep L S = D := by
  unfold divStep; rw [← h, if_pos hn, hD]
theorem div_fix {L : List E36} {S : List Int} (h : divStep L S = S) : ∀ m, divRun L m S = S
  | 0 => rfl
  | m + 1 => by unfold divRun; rw [if_pos h]
theorem div_next {L : List E36} {S C : List Int} {nn : Int} (h0 : 0 < nn) (h : divStep L S = C) (hn : ¬ C = S) : divRun L nn.toNat S = divRun L (nn - 1).toNat C := by
  have e : nn.toNat = (nn - 1).toNat + 1 := by omega
  rw [e]
  show (if divStep L S = S then S else divRun L (nn - 1).toNat (divStep L S)) = _
  rw [h, if_neg hn]
theorem four_ne {a b c d a' b' c' d' : Int} (h : ¬ (a = a' ∧ b = b' ∧ c = c' ∧ d = d')) : ¬ [a, b, c, d] = [a', b', c', d'] := fun e => h (by simpa using e)
theorem four_eq {a b c d a' b' c' d' : Int} (h : a = a' ∧ b = b' ∧ c = c' ∧ d = d') : [a, b, c, d] = [a', b', c', d'] := by simpa using h
theorem chF_len (L : List E36) (t n : Int) : (chF L t n).1.length = L.length := by
  unfold chF; split
  · split <;> simp
  · rfl
theorem unF_len (L : List E36) (t n : Int) : (unF L t n).1.length = L.length := by
  unfold unF; split
  · split <;> simp
  · rfl

end Go.Proofs.Ytiifpgkdgnoafaa

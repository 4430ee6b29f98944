/- walks, printed by wip/gen -/
import Derived.Test.YtiifpgkdgnoafaaP6
namespace Go.Proofs.Ytiifpgkdgnoafaa
open Go.RowKit
set_option linter.unusedVariables false
set_option linter.unusedSimpArgs false

/- the reference's way of dividing: first by excesses, then by charges -/
def hP (p : Int) (x : E36) : Int := if p = 0 then exF x else x.f2
theorem hP_0 {p : Int} (h : p = 0) (x : E36) : hP p x = exF x := by unfold hP; rw [if_pos h]
theorem hP_1 {p : Int} (h : ¬ p = 0) (x : E36) : hP p x = x.f2 := by unfold hP; rw [if_neg h]
theorem hP_in {p : Int} {L : List E36} (hok : ∀ e ∈ L, okG e) : ∀ x ∈ L, 0 ≤ hP p x ∧ hP p x ≤ 64 := by
  intro x hx
  unfold hP; split
  · exact exF_in (hok x hx)
  · exact f2_in (hok x hx)
theorem take_get {α : Type} {S : List α} {m k : Nat} {c : α} (h : (S.take m)[k]? = some c) : S[k]? = some c := by
  rw [List.getElem?_take] at h
  split at h
  · exact h
  · cases h
theorem best_yesP {p : Int} {S : List Int} {L : List E36} {k : Nat} {b m c e : Int} {x : E36} (hp : hP p x = e) (hb : bestF (hP p) S L k = (b, m)) (hx : L[k]? = some x) (hc : (S.take L.length)[k]? = some c) (hl : m < e - c) : bestF (hP p) S L (k + 1) = ((k : Int), e - c) := by
  subst hp; exact best_yes hb hx (take_get hc) hl
theorem best_noP {p : Int} {S : List Int} {L : List E36} {k : Nat} {b m c e : Int} {x : E36} (hp : hP p x = e) (hb : bestF (hP p) S L k = (b, m)) (hx : L[k]? = some x) (hc : (S.take L.length)[k]? = some c) (hl : ¬ m < e - c) : bestF (hP p) S L (k + 1) = (b, m) := by
  subst hp; exact best_no hb hx (take_get hc) hl
theorem more_setP {p : Int} {S : List Int} {L : List E36} {k : Nat} {b m c : Int} (hb : bestF (hP p) S L k = (b, m)) (hk : k = L.length) (h0 : 0 ≤ b) (hc : (S.take L.length)[b.toNat]? = some c) : (S.take L.length).set b.toNat (c + 1) = (moreF (hP p) S L).take L.length ∧ moreF (hP p) S L ≠ S := by
  have hc' := take_get hc
  have h1 := more_yes hb hk (j := b.toNat) (by omega) hc'
  have hj := (List.getElem?_eq_some_iff.1 hc').1
  refine ⟨by rw [← h1, List.take_set], ?_⟩
  rw [← h1]
  intro e
  have h2 : (S.set b.toNat (c + 1))[b.toNat]? = some (c + 1) := by simp [hj]
  rw [e, hc'] at h2
  injection h2 with h2; omega
theorem more_stay {S : List Int} {L : List E36} {h : E36 → Int} (hL : L.length ≤ S.length) (hfix : moreF exF S L = S) : moreF exF (moreF h S L) L = moreF h S L := by
  have hz : ∀ (j : Nat) (x : E36), L[j]? = some x → exF x - (S[j]?).getD 0 ≤ 0 := by
    rcases more_cases (h := exF) (S := S) (L := L) with ⟨_, h2⟩ | ⟨j, x, hx, _, _, h3⟩
    · exact h2
    · have hj := (List.getElem?_eq_some_iff.1 hx).1
      exact absurd (h3.symm.trans hfix) (set_ne (by omega))
  rcases more_cases (h := h) (S := S) (L := L) with ⟨h1, _⟩ | ⟨j, x, hx, _, _, h3⟩
  · rw [h1]; exact hfix
  · have hj := (List.getElem?_eq_some_iff.1 hx).1
    rw [h3]
    rcases more_cases (h := exF) (S := S.set j ((S[j]?).getD 0 + 1)) (L := L) with ⟨h4, _⟩ | ⟨i, y, hy, h4, _, _⟩
    · exact h4
    · rw [getD_set (by omega)] at h4
      have := hz i y hy
      split at h4
      · rename_i e; subst e; omega
      · omega
theorem hP_exF : hP 0 = exF := by funext x; exact hP_0 rfl x
theorem hP_f2 {p : Int} (h : ¬ p = 0) : hP p = E36.f2 := by funext x; exact hP_1 h x
theorem ref_step {p nn : Int} {S : List Int} {L : List E36} (hL : L.length ≤ S.length) (h0 : 0 < nn) (hne : moreF (hP p) S L ≠ S) (hp : 0 ≤ p) (hF : 1 ≤ p → 0 < nn → moreF exF S L = S) :
    divRun L nn.toNat S = divRun L (nn - 1).toNat (moreF (hP p) S L) ∧ (1 ≤ p → 0 < nn - 1 → moreF exF (moreF (hP p) S L) L = moreF (hP p) S L) ∧ (moreF (hP p) S L).length = S.length := by
  refine ⟨div_next h0 ?_ hne, fun h1 _ => more_stay hL (hF h1 h0), ?_⟩
  · unfold divStep
    by_cases hpp : p = 0
    · subst hpp
      rw [hP_exF] at hne ⊢
      rw [if_neg hne]
    · rw [if_pos (hF (by omega) h0), hP_f2 hpp]
  · unfold moreF; split <;> simp
theorem ref_pass {p nn : Int} {S : List Int} {L : List E36} (hp : p = 0 ∨ p = 1) (hF : 1 ≤ p → 0 < nn → moreF exF S L = S) (h : nn ≤ 0 ∨ S = moreF (hP p) S L) :
    (1 ≤ p + 1 → 0 < nn → moreF exF S L = S) ∧ (2 ≤ p + 1 → 0 < nn → moreF E36.f2 S L = S) := by
  refine ⟨fun _ hn => ?_, fun h2 hn => ?_⟩
  · rcases hp with rfl | rfl
    · rcases h with h | h
      · omega
      · rw [hP_exF] at h; exact h.symm
    · exact hF (by omega) hn
  · rcases hp with rfl | rfl
    · omega
    · rcases h with h | h
      · omega
      · rw [hP_f2 (by omega)] at h; exact h.symm
theorem ref_end {nn : Int} {S : List Int} {L : List E36} (h0 : 0 ≤ nn) (h1 : 0 < nn → moreF exF S L = S) (h2 : 0 < nn → moreF E36.f2 S L = S) : divRun L nn.toNat S = S := by
  by_cases h : nn = 0
  · subst h; rfl
  · refine div_fix ?_ _
    unfold divStep
    rw [if_pos (h1 (by omega)), h2 (by omega)]
theorem rep_zero {m : Nat} (h : m ≤ 4) : List.replicate m (0 : Int) = ([0, 0, 0, 0] : List Int).take m := by
  have : m = 0 ∨ m = 1 ∨ m = 2 ∨ m = 3 ∨ m = 4 := by omega
  rcases this with rfl | rfl | rfl | rfl | rfl <;> rfl
theorem chF_0 {L : List E36} {t n : Int} {x : E36} (hw : wrongF L t n = 0) (hx : L[t.toNat]? = some x) (h : ¬ x.f0 - x.f2 < n) : chF L t n = (L.set t.toNat ⟨x.f0, x.f1, x.f2 + n⟩, 0) := by
  unfold chF; rw [if_pos hw, atG_get hx, if_neg h]
theorem chF_3 {L : List E36} {t n : Int} {x : E36} (hw : wrongF L t n = 0) (hx : L[t.toNat]? = some x) (h : x.f0 - x.f2 < n) : chF L t n = (L, 3) := by
  unfold chF; rw [if_pos hw, atG_get hx, if_pos h]
theorem unF_0 {L : List E36} {t n : Int} {x : E36} (hw : wrongF L t n = 0) (hx : L[t.toNat]? = some x) (h : ¬ x.f2 < n) : unF L t n = (L.set t.toNat ⟨x.f0, x.f1, x.f2 - n⟩, 0) := by
  unfold unF; rw [if_pos hw, atG_get hx, if_neg h]
theorem unF_4 {L : List E36} {t n : Int} {x : E36} (hw : wrongF L t n = 0) (hx : L[t.toNat]? = some x) (h : x.f2 < n) : unF L t n = (L, 4) := by
  unfold unF; rw [if_pos hw, atG_get hx, if_pos h]
theorem chF_w {L : List E36} {t n e : Int} (hw : e = wrongF L t n) (h : e ≠ 0) : chF L t n = (L, e) := by
  subst hw; unfold chF; rw [if_neg h]
theorem unF_w {L : List E36} {t n e : Int} (hw : e = wrongF L t n) (h : e ≠ 0) : unF L t n = (L, e) := by
  subst hw; unfold unF; rw [if_neg h]
theorem ov_0 {L : List E36} {t n e : Int} (hw : e = wrongF L t n) (h : e ≠ 0) : ovF L t n = 0 := by
  subst hw; unfold ovF; rw [if_neg h]
theorem ov_1 {L : List E36} {t n : Int} {x : E36} (hw : wrongF L t n = 0) (hx : L[t.toNat]? = some x) : ovF L t n = max (n - (x.f0 - x.f2)) 0 := by
  unfold ovF; rw [if_pos hw, atG_get hx]

end Go.Proofs.Ytiifpgkdgnoafaa

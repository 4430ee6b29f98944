/- Slices of structs among the arguments. -/
import Derived.Test.YtlhcpeolkkadbaaQ
import Derived.Test.YtlhcpeolkkadbaaE
import Derived.Deep.Slices
import Derived.ChangeMaps5
namespace Go.Proofs.Ytlhcpeolkkadbaa
open Go.ChangeShapes Go.WideShapes Go.ChangeAt Go.RowKit
set_option linter.unusedVariables false
theorem list_of {α : Type} {p : Nat → α → Prop} : ∀ n : Nat, (∀ i, i < n → ∃ x, p i x) → ∃ L : List α, L.length = n ∧ ∀ i x, L[i]? = some x → p i x
  | 0, _ => ⟨[], rfl, fun i x h => by simp at h⟩
  | n + 1, h => by
    obtain ⟨L, hl, hp⟩ := list_of n (fun i hi => h i (by omega))
    obtain ⟨x, hx⟩ := h n (by omega)
    refine ⟨L ++ [x], by simp [hl], fun i y hy => ?_⟩
    rw [List.getElem?_append] at hy
    split at hy
    · exact hp i y hy
    · rename_i hi
      have h0 : i - L.length = 0 := by
        have := (List.getElem?_eq_some_iff.1 hy).1
        simp at this; omega
      rw [h0] at hy
      simp at hy; subst hy
      have : i = n := by omega
      subst this; exact hx
section
variable {H : Type} {enc : TypeId × Value → H} {P : Program}
theorem f_list {base : Nat} {w : World} {spare : Nat → Bool} {held : Bool} {t e m size : Nat} {v : Value} {y : DataW H × List MemPlace} {α : Type} {encE : α → List Value} {good : α → Prop} (ht : P.underlying t = some (.slice e)) (hc : P.cellsOf e = size) (hpos : 0 < size)
    (he : ∀ x, (encE x).length = size) (hdec : ∀ n cs y, DataW.trod enc P w base spare held n e cs = some y → cs.length = size → ∃ x, cs = encE x ∧ good x) (h : DataW.trod enc P w base spare held m t [v] = some y) :
    ∃ L : List α, Rd w size v L.length (cells encE L) ∧ (∀ x ∈ L, good x) ∧ L.length ≤ maxLen := by
  rcases Go.Deep.open_slice ht h with ⟨hv, _⟩ | ⟨a, len, cap, m', n, D, Pl, hv, hb, hl, hm, hmm, _, hx⟩
  · injection hv with hv _; subst hv
    exact ⟨[], rd_nil _ size 0 encE, (fun x hx => by cases hx), by simp [maxLen]⟩
  · injection hv with hv _; subst hv
    have hlm : len ≤ m' := by rw [hmm]; split <;> omega
    obtain ⟨L, hlen, hp⟩ := list_of (p := fun i x => w.cells? base (a.add (i * size)) size = some (encE x) ∧ good x) len (fun i hi => by
      obtain ⟨cs', h1, h2⟩ := hx i (by omega)
      rw [hc] at h1
      obtain ⟨_, hl', _⟩ := World.cells?_some h1
      obtain ⟨x, rfl, hg⟩ := hdec _ _ _ h2 hl'
      exact ⟨x, h1, hg⟩)
    refine ⟨L, ⟨some a, cap, by rw [hlen], cells_length he L, by rw [hlen]; exact hl, hm, (fun h => by cases h), fun hn => ⟨a, rfl, ?_, fun j u hu => ?_⟩⟩, fun x hx => ?_, by rw [hlen]; omega⟩
    · obtain ⟨x, hx0⟩ := get_some (L := L) (k := 0) (by omega)
      have h1 := (hp 0 x hx0).1
      obtain ⟨_, _, hcell⟩ := World.cells?_some h1
      have h0 := hcell 0 hpos
      rw [Nat.zero_mul, Addr.add_zero', Addr.add_zero'] at h0
      have hne : (encE x)[0]? ≠ none := by
        rw [ne_eq, List.getElem?_eq_none_iff, he]; omega
      cases hq : w.cell? a with
      | none => rw [hq] at h0; exact absurd h0.symm (by first | exact hne | simpa using hne)
      | some q => exact World.block_lt_of_cell? w _ hq
    · have hj : j < L.length * size := by rw [← cells_length he]; exact (List.getElem?_eq_some_iff.1 hu).1
      have hk : j / size < L.length := Nat.div_lt_of_lt_mul (by rwa [Nat.mul_comm])
      have hr : j % size < size := Nat.mod_lt _ hpos
      obtain ⟨x, hx0⟩ := get_some hk
      have e1 : j / size * size + j % size = j := by rw [Nat.mul_comm]; exact Nat.div_add_mod j size
      have h1 := cells_at he L _ x hx0 (j % size) hr
      rw [e1, hu] at h1
      obtain ⟨_, _, hcell⟩ := World.cells?_some (hp _ x hx0).1
      have h0 := hcell (j % size) hr
      rw [add_of_add, e1] at h0
      rw [h0]
      first | exact h1.symm | (rw [← h1]; simp [he, hr])
    · obtain ⟨k, hk⟩ := List.getElem?_of_mem hx
      exact (hp k x hk).2
end
end Go.Proofs.Ytlhcpeolkkadbaa

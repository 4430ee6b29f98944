/- crash: the choice that is found sector by sector -/
import Derived.Test.YtlhcpeolkkadbaaPE
namespace Go.Proofs.Ytlhcpeolkkadbaa
open Go.RowKit
set_option linter.unusedVariables false
set_option linter.unusedSimpArgs false

/- crash: the choice that is found sector by sector -/
def pickV (l : List ByteArray) (z : Int) (y : Bool) : ByteArray := pickD l 0 [z] [y]
def AG (st : ByteArray) (L : List PU) (M : List Int) (P : List Int) (T : List Bool) (k : Nat) (im : ByteArray) : Prop := ∀ (i : Nat) (x : Int), i < k → M[i]? = some x → pickD (versC st L x) i P T = sec im x
def FD (l : List ByteArray) (v : ByteArray) (i : Nat) (b : Bool) (k : Nat) (P : List Int) (T : List Bool) : Prop := (b = true → pickD l k P T = v) ∧ (b = false → ∀ i' : Nat, i' < i → ¬ pickV l ((i' : Int) / 2) (decide ((i' : Int) % 2 = 1)) = v)
section
variable {st : ByteArray} {L F : List PU} {rm : Int} {P : List Int} {T : List Bool}
theorem pickD_V {l : List ByteArray} {k : Nat} {z : Int} {y : Bool} (hp : P[k]? = some z) (ht : T[k]? = some y) : pickD l k P T = pickV l z y := by
  unfold pickV pickD pickI; rw [hp, ht]; rfl
theorem pickD_ext {l : List ByteArray} {k : Nat} {P' : List Int} {T' : List Bool} (hp : P'[k]? = P[k]?) (ht : T'[k]? = T[k]?) : pickD l k P' T' = pickD l k P T := by
  unfold pickD pickI; rw [hp, ht]
theorem AG_start (st : ByteArray) (L : List PU) (M : List Int) (P : List Int) (T : List Bool) (im : ByteArray) : AG st L M P T 0 im := fun i x h => by omega
theorem AG_app {M : List Int} {k : Nat} {im : ByteArray} {z : Int} {y : Bool} (h : AG st L M P T k im) (hp : P.length = k) (ht : T.length = k) : AG st L M (P ++ [z]) (T ++ [y]) k im := fun i x hi hx => by
  rw [pickD_ext (P := P) (T := T) (List.getElem?_append_left (by omega)) (List.getElem?_append_left (by omega))]; exact h i x hi hx
theorem AG_set {M : List Int} {k : Nat} {im : ByteArray} {z : Int} {y : Bool} (h : AG st L M P T k im) : AG st L M (P.set k z) (T.set k y) k im := fun i x hi hx => by
  rw [pickD_ext (P := P) (T := T) (List.getElem?_set_ne (by omega)) (List.getElem?_set_ne (by omega))]; exact h i x hi hx
theorem AG_succ {M : List Int} {k : Nat} {im : ByteArray} {x : Int} (h : AG st L M P T k im) (hx : M[k]? = some x) (he : pickD (versC st L x) k P T = sec im x) : AG st L M P T (k + 1) im := fun i x' hi hx' => by
  by_cases c : i = k
  · subst c; rw [hx] at hx'; injection hx' with hx'; subst hx'; exact he
  · exact h i x' (by omega) hx'
theorem FD_start (l : List ByteArray) (v : ByteArray) (k : Nat) (P : List Int) (T : List Bool) : FD l v 0 false k P T := ⟨fun h => (by cases h), fun _ i' h => by omega⟩
theorem FD_step {l : List ByteArray} {v u : ByteArray} {i k : Nat} {b : Bool} (h : FD l v i b k P T) (hb : b = false) (hp : k < P.length) (ht : k < T.length) (hu : u = pickD l k (P.set k ((i : Int) / 2)) (T.set k (decide ((i : Int) % 2 = 1)))) : FD l v (i + 1) (decide (u = v)) k (P.set k ((i : Int) / 2)) (T.set k (decide ((i : Int) % 2 = 1))) := by
  refine ⟨fun h9 => by rw [← hu]; exact of_decide_eq_true h9, fun h9 i' hi => ?_⟩
  have h9 := of_decide_eq_false h9
  by_cases c : i' = i
  · subst c; rw [hu, pickD_V (List.getElem?_set_self hp) (List.getElem?_set_self ht)] at h9; exact h9
  · exact h.2 hb i' (by omega)
theorem pickV_plain {l : List ByteArray} {j : Nat} {x : ByteArray} (hx : l[j]? = some x) : pickV l (j : Int) false = x := by
  have hj := (List.getElem?_eq_some_iff.1 hx).1
  have e : pickI l.length 0 [(j : Int)] = (j : Int) := by
    unfold pickI; simp only [List.getElem?_cons_zero]; rw [Int.max_eq_left (by omega)]; exact Int.emod_eq_of_lt (by omega) (by omega)
  unfold pickV pickD; rw [e, if_neg (by rintro ⟨_, h⟩; simp at h), Int.toNat_natCast]; exact getD_of hx
theorem pickV_torn {l : List ByteArray} {j : Nat} {a b : ByteArray} (h1 : 1 ≤ j) (ha : l[j]? = some a) (hb : l[j - 1]? = some b) : pickV l (j : Int) true = tornF a b := by
  have hj := (List.getElem?_eq_some_iff.1 ha).1
  have e : pickI l.length 0 [(j : Int)] = (j : Int) := by
    unfold pickI; simp only [List.getElem?_cons_zero]; rw [Int.max_eq_left (by omega)]; exact Int.emod_eq_of_lt (by omega) (by omega)
  unfold pickV pickD; rw [e, if_pos ⟨by omega, rfl⟩, Int.toNat_natCast, getD_of ha, getD_of hb]
theorem FD_end {l : List ByteArray} {v : ByteArray} {i k : Nat} {b : Bool} (h : FD l v i b k P T) (hv : okV l v) (hl : l.length ≤ 9) (hi : 20 ≤ i ∨ b = true) : b = true := by
  rcases hi with hi | hi
  · cases b with
    | true => rfl
    | false =>
      exfalso
      rcases hv with hv | ⟨j, x, y, h1, h2, h3, h4⟩
      · obtain ⟨j, hj⟩ := List.getElem?_of_mem hv
        have hlt := (List.getElem?_eq_some_iff.1 hj).1
        have := h.2 rfl (2 * j) (by omega)
        rw [show ((2 * j : Nat) : Int) / 2 = (j : Int) by omega, decide_eq_false (by omega)] at this
        exact this (pickV_plain hj)
      · have hlt := (List.getElem?_eq_some_iff.1 h2).1
        have := h.2 rfl (2 * j + 1) (by omega)
        rw [show ((2 * j + 1 : Nat) : Int) / 2 = (j : Int) by omega, decide_eq_true (by omega)] at this
        exact this ((pickV_torn h1 h2 h3).trans h4)
  · exact hi
theorem choose_pick {x : Int} {k : Nat} {M : List Int} (hC : okC st L F rm) (hM : M = secF st L F rm) (hx : M[k]? = some x) : okS (st.size : Int) x 1 ∧ subs (chooseF st L F rm P T) (x * 8) ((x + 1) * 8) = pickD (versC st (L ++ F) x) k P T ∧ okV (versC st (L ++ F) x) (sec (chooseF st L F rm P T) x) := by
  subst hM
  unfold secF at hx; rw [if_pos hC] at hx
  obtain ⟨h1, h2, h3⟩ := secN_S hC hx
  have h1' := h1; unfold okS okI at h1'
  have h4 := choose_sec (P := P) (T := T) hC (t := x) (by omega) (by omega)
  refine ⟨h1, ?_, by rw [h4]; exact chS_ok x⟩
  unfold sec at h4; rw [h4]; unfold chS; rw [if_pos h2, ← h3]
theorem AG_end {P' : List Int} {T' : List Bool} {M : List Int} {k : Nat} (hC : okC st L F rm) (hM : M = secF st L F rm) (h : AG st (L ++ F) M P T k (chooseF st L F rm P' T')) (hk : M.length ≤ k) : chooseF st L F rm P T = chooseF st L F rm P' T' := by
  symm
  refine choose_ext hC (choose_size hC) fun t h0 ht => ?_
  by_cases hv : 1 < (versC st (L ++ F) t).length
  · have hi := okD_I hC.1
    have hx : M[(secN st (L ++ F) t.toNat).length]? = some t := by
      subst hM; unfold secF; rw [if_pos hC]; exact secN_at h0 (by omega) hv
    rw [← h _ t (by have := (List.getElem?_eq_some_iff.1 hx).1; omega) hx]
    unfold chS; rw [if_pos hv]
  · rw [choose_sec hC h0 ht, chS_none1 hv, chS_none1 hv]
end

end Go.Proofs.Ytlhcpeolkkadbaa

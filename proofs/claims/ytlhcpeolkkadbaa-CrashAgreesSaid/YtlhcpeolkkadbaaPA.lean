/- crash in plain words -/
import Derived.Test.YtlhcpeolkkadbaaP2
namespace Go.Proofs.Ytlhcpeolkkadbaa
open Go.RowKit
set_option linter.unusedVariables false
set_option linter.unusedSimpArgs false

/- crash: possible versions, choices, images that are permitted -/
def okC (st : ByteArray) (L F : List PU) (rm : Int) : Prop := okD st L rm ∧ ∀ p ∈ F, okP (st.size : Int) p
instance (st : ByteArray) (L F : List PU) (rm : Int) : Decidable (okC st L F rm) := by unfold okC; infer_instance
def tornF (a b : ByteArray) : ByteArray := subs a 0 4 ++ subs b 4 (b.size : Int)
def secN (st : ByteArray) (L : List PU) : Nat → List Int
  | 0 => []
  | k + 1 => secN st L k ++ (if 1 < (versC st L (k : Int)).length then [(k : Int)] else [])
def pickI (n k : Nat) (P : List Int) : Int := match P[k]? with
  | some x => (max x 0) % (n : Int)
  | none => 0
def pickD (l : List ByteArray) (k : Nat) (P : List Int) (T : List Bool) : ByteArray :=
  if 1 ≤ pickI l.length k P ∧ T[k]? = some true then tornF (l.getD (pickI l.length k P).toNat ⟨#[]⟩) (l.getD ((pickI l.length k P).toNat - 1) ⟨#[]⟩) else l.getD (pickI l.length k P).toNat ⟨#[]⟩
def chS (st : ByteArray) (L : List PU) (P : List Int) (T : List Bool) (s : Int) : ByteArray :=
  if 1 < (versC st L s).length then pickD (versC st L s) (secN st L s.toNat).length P T else (versC st L s).getD 0 ⟨#[]⟩
def okV (l : List ByteArray) (x : ByteArray) : Prop := x ∈ l ∨ ∃ (i : Nat) (a b : ByteArray), 1 ≤ i ∧ l[i]? = some a ∧ l[i - 1]? = some b ∧ tornF a b = x
def noV (l : List ByteArray) (x : ByteArray) (j : Nat) : Prop := x ∉ l ∧ ∀ (i : Nat) (a b : ByteArray), 1 ≤ i → i < j → l[i]? = some a → l[i - 1]? = some b → ¬ tornF a b = x
def vB (l : List ByteArray) (x : ByteArray) (j : Nat) (b : Bool) : Prop := (b = true → okV l x) ∧ (b = false → noV l x j)
def secF (st : ByteArray) (L F : List PU) (rm : Int) : List Int := if okC st L F rm then secN st (L ++ F) (st.size / 8) else []
def chooseF (st : ByteArray) (L F : List PU) (rm : Int) (P : List Int) (T : List Bool) : ByteArray := if okC st L F rm then catF (chS st (L ++ F) P T) 0 (st.size / 8) else ⟨#[]⟩
def Perm (st : ByteArray) (L F : List PU) (rm : Int) (im : ByteArray) : Prop := okC st L F rm ∧ (im.size : Int) = (st.size : Int) ∧ ∀ s : Int, 0 ≤ s → s < (st.size : Int) / 8 → okV (versC st (L ++ F) s) (subs im (s * 8) ((s + 1) * 8))
theorem versD_in {st : ByteArray} {L F : List PU} {s : Int} {k : Nat} {x : PU} (hx : F[k]? = some x) (h : x.f0 = s) : versC st (L ++ F.take k) s ++ [x.f1] = versC st (L ++ F.take (k + 1)) s := by
  unfold versC; rw [List.take_add_one, hx]; simp [h]
theorem versD_out {st : ByteArray} {L F : List PU} {s : Int} {k : Nat} {x : PU} (hx : F[k]? = some x) (h : ¬ x.f0 = s) : versC st (L ++ F.take k) s = versC st (L ++ F.take (k + 1)) s := by
  unfold versC; rw [List.take_add_one, hx]; simp [h]
theorem versD_zero (st : ByteArray) (L F : List PU) (s : Int) : versC st L s = versC st (L ++ F.take 0) s := by simp
theorem spec_iff {st : ByteArray} {L F : List PU} {rm : Int} (hd : okD st L rm) : (!(F.any fun p => !(decide (okP (st.size : Int) p)))) = decide (okC st L F rm) := by
  rw [Bool.eq_iff_iff]; simp [okC, hd]
theorem flies_bad {st : ByteArray} {L F : List PU} {rm : Int} {k : Nat} {x : PU} (hx : F[k]? = some x) (h : ¬ okP (st.size : Int) x) : false = decide (okC st L F rm) := by
  symm; rw [decide_eq_false_iff_not]; intro h9; exact h (h9.2 x (List.mem_of_getElem? hx))
theorem flies_end {st : ByteArray} {L F : List PU} {rm : Int} {k : Nat} (h : ∀ p ∈ F.take k, okP (st.size : Int) p ∨ ¬ okI (st.size : Int)) (hk : F.length ≤ k) : decide (okD st L rm) = decide (okC st L F rm) := by
  rw [List.take_of_length_le hk] at h
  by_cases hd : okD st L rm
  · rw [decide_eq_true hd, eq_comm, decide_eq_true_eq]
    exact ⟨hd, fun p hp => (h p hp).resolve_right (fun h9 => h9 hd.1)⟩
  · rw [decide_eq_false hd, eq_comm, decide_eq_false_iff_not]; exact fun h9 => hd h9.1
theorem secN_len (st : ByteArray) (L : List PU) : ∀ k : Nat, (secN st L k).length ≤ k
  | 0 => by simp [secN]
  | k + 1 => by unfold secN; have := secN_len st L k; rw [List.length_append]; split <;> simp <;> omega
theorem secN_in {st : ByteArray} {L : List PU} {k : Nat} (h : 1 < (versC st L (k : Int)).length) : secN st L k ++ [(k : Int)] = secN st L (k + 1) := by
  conv => rhs; unfold secN
  rw [if_pos h]
theorem secN_out {st : ByteArray} {L : List PU} {k : Nat} (h : ¬ 1 < (versC st L (k : Int)).length) : secN st L k = secN st L (k + 1) := by
  conv => rhs; unfold secN
  rw [if_neg h, List.append_nil]
theorem secF_yes {st : ByteArray} {L F : List PU} {rm : Int} {k : Nat} (h : okC st L F rm) (hk : k = st.size / 8) : secN st (L ++ F) k = secF st L F rm := by subst hk; unfold secF; rw [if_pos h]
theorem secF_no {st : ByteArray} {L F : List PU} {rm : Int} (h : ¬ okC st L F rm) : [] = secF st L F rm := by unfold secF; rw [if_neg h]
theorem take_allC {p : PU → Prop} {F : List PU} {k : Nat} {x : PU} (h : ∀ y ∈ F.take k, p y) (hx : F[k]? = some x) (hp : p x) : ∀ y ∈ F.take (k + 1), p y := by
  intro y hy
  rw [List.take_add_one, hx] at hy
  simp only [Option.toList_some, List.mem_append, List.mem_singleton] at hy
  rcases hy with hy | rfl
  · exact h y hy
  · exact hp
theorem okS_k {st : ByteArray} {L F : List PU} {rm : Int} {k : Nat} (h : okC st L F rm) (hk : (k : Int) < (st.size : Int) / 8) : okS (st.size : Int) (k : Int) 1 := ⟨h.1.1, by omega, by omega, by omega⟩
theorem not_memC {x y : ByteArray} {M : List ByteArray} {k : Nat} (h : x ∉ M.take k) (hx : M[k]? = some y) (hne : ¬ x = y) : x ∉ M.take (k + 1) := by
  rw [List.take_add_one, hx]; simp only [Option.toList_some, List.mem_append, List.mem_singleton]; rintro (h9 | h9); exact h h9; exact hne h9
theorem mem_atC {x y : ByteArray} {M : List ByteArray} {k : Nat} (hx : M[k]? = some y) (h : x = y) : x ∈ M := by subst h; exact List.mem_of_getElem? hx
instance memC (x : ByteArray) (M : List ByteArray) : Decidable (x ∈ M) := decidable_of_iff (M.any (fun y => decide (x = y)) = true) (by simp)
theorem noV_end {l : List ByteArray} {x : ByteArray} {j : Nat} (h : noV l x j) (hj : l.length ≤ j) : ¬ okV l x := by
  rintro (h9 | ⟨i, a, b, h1, h2, h3, h4⟩)
  · exact h.1 h9
  · have := (List.getElem?_eq_some_iff.1 h2).1
    exact h.2 i a b h1 (by omega) h2 h3 h4
theorem vB_start (l : List ByteArray) (x : ByteArray) : vB l x 1 (decide (x ∈ l)) := by
  refine ⟨fun h => .inl (of_decide_eq_true h), fun h => ⟨of_decide_eq_false h, fun i a b h1 h2 => by omega⟩⟩
theorem vB_step {l : List ByteArray} {x a c : ByteArray} {j : Nat} (h : vB l x j false) (h1 : 1 ≤ j) (ha : l[j]? = some a) (hc : l[j - 1]? = some c) : vB l x (j + 1) (decide (tornF a c = x)) := by
  refine ⟨fun h9 => .inr ⟨j, a, c, h1, ha, hc, of_decide_eq_true h9⟩, fun h9 => ?_⟩
  have h9 := of_decide_eq_false h9
  obtain ⟨h2, h3⟩ := h.2 rfl
  refine ⟨h2, fun i a' b' h4 h5 h6 h7 => ?_⟩
  by_cases e : i = j
  · subst e; rw [ha] at h6; rw [hc] at h7; injection h6 with h6; injection h7 with h7; subst h6 h7; exact h9
  · exact h3 i a' b' h4 (by omega) h6 h7
theorem versC_all {st : ByteArray} {L F : List PU} {rm : Int} {s : Int} (h : okC st L F rm) (hs : okS (st.size : Int) s 1) : ∀ x ∈ versC st (L ++ F) s, (x.size : Int) = 8 := by
  intro x hx
  unfold versC at hx
  rw [List.mem_cons] at hx
  rcases hx with rfl | hx
  · unfold okS okI at hs; rw [subs_size (by omega) (by omega) (by omega)]; omega
  · obtain ⟨p, hp, rfl⟩ := List.mem_map.1 hx
    have hp := (List.mem_filter.1 hp).1
    rcases List.mem_append.1 hp with hp | hp
    · exact (h.1.2.2.2 p hp).2
    · exact (h.2 p hp).2
theorem perm_no {st im : ByteArray} {L F : List PU} {rm s : Int} (h0 : 0 ≤ s) (h1 : s < (st.size : Int) / 8) (h : ¬ okV (versC st (L ++ F) s) (subs im (s * 8) ((s + 1) * 8))) : ¬ Perm st L F rm im := fun h9 => h (h9.2.2 s h0 h1)
theorem perm_bad {st im : ByteArray} {L F : List PU} {rm : Int} (h : ¬ (okC st L F rm ∧ (im.size : Int) = (st.size : Int))) : ¬ Perm st L F rm im := fun h9 => h ⟨h9.1, h9.2.1⟩
theorem fI {P : Prop} (h : ¬ P) : (false = true ↔ P) := ⟨fun h9 => (by cases h9), fun h9 => absurd h9 h⟩
theorem tI {P : Prop} (h : P) : (true = true ↔ P) := ⟨fun _ => h, fun _ => rfl⟩
theorem ok_stepC {st im : ByteArray} {L F : List PU} {k : Nat} (h : ∀ s : Int, 0 ≤ s → s < (k : Int) → okV (versC st (L ++ F) s) (subs im (s * 8) ((s + 1) * 8))) (hk : okV (versC st (L ++ F) (k : Int)) (subs im ((k : Int) * 8) (((k : Int) + 1) * 8))) : ∀ s : Int, 0 ≤ s → s < ((k + 1 : Nat) : Int) → okV (versC st (L ++ F) s) (subs im (s * 8) ((s + 1) * 8)) := by
  intro s h0 h1
  by_cases e : s = (k : Int)
  · subst e; exact hk
  · exact h s h0 (by omega)
theorem torn_size {a b : ByteArray} (ha : (a.size : Int) = 8) (hb : (b.size : Int) = 8) : ((tornF a b).size : Int) = 8 := by
  unfold tornF; rw [cat_size, subs_size (by omega) (by omega) (by omega), subs_size (by omega) (by omega) (by omega)]; omega

end Go.Proofs.Ytlhcpeolkkadbaa

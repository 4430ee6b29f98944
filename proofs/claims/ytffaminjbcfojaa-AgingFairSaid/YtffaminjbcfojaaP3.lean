/- walks, printed by wip/gen -/
import Derived.Test.YtffaminjbcfojaaP
import Derived.Test.YtffaminjbcfojaaM
namespace Go.Proofs.Ytffaminjbcfojaa
open Go.RowKit
set_option linter.unusedVariables false
set_option linter.unusedSimpArgs false

/- AgingFair: the list of dirty files and the map say the same -/
def SF (X : List E44) (f : Int → Option Int) : Prop := ∀ g c, f g = some c ↔ (⟨g, c⟩ : E44) ∈ X
theorem sf_nil : SF [] (fun _ => none) := fun g c => by simp
theorem okA_inj {X : List E44} (hok : okA X) {x y : E44} (hx : x ∈ X) (hy : y ∈ X) (h : x.f0 = y.f0) : x = y := by
  obtain ⟨i, hi⟩ := List.getElem?_of_mem hx
  obtain ⟨j, hj⟩ := List.getElem?_of_mem hy
  obtain ⟨hi1, hi2⟩ := List.getElem?_eq_some_iff.1 hi
  obtain ⟨hj1, hj2⟩ := List.getElem?_eq_some_iff.1 hj
  have hp := List.pairwise_iff_getElem.1 hok.2
  rcases Nat.lt_trichotomy i j with c | c | c
  · exact absurd (by rw [hi2, hj2]; exact h) (hp i j hi1 hj1 c).2
  · subst c; rw [← hi2, ← hj2]
  · exact absurd (by rw [hi2, hj2]; exact h.symm) (hp j i hj1 hi1 c).2
theorem sf_any {X : List E44} {f : Int → Option Int} {r : Int} (hs : SF X f) : List.any X (fun x : E44 => decide (x.f0 = r)) = (f r).isSome := by
  cases h : f r with
  | some c => rw [Option.isSome_some, List.any_eq_true]; exact ⟨_, (hs r c).1 h, by simp⟩
  | none =>
    rw [Option.isSome_none, List.any_eq_false]
    intro x hx hc
    have : f r = some x.f1 := (hs r x.f1).2 (by rw [decide_eq_true_eq] at hc; rw [← hc]; exact hx)
    rw [h] at this; cases this
theorem sf_bd {X : List E44} {f : Int → Option Int} {g c : Int} (hok : okA X) (hs : SF X f) (h : f g = some c) : (0 ≤ g ∧ g ≤ 7) ∧ (0 ≤ c ∧ c ≤ 1000000) := hok.1 _ ((hs g c).1 h)
theorem fair_rem {X L1 : List E44} {f : Int → Option Int} {r e : Int} (hok : okA X) (hs : SF X f) (hr : 0 ≤ r ∧ r ≤ 7) (h : remF X r = (L1, e)) : okA L1 ∧ (∀ x ∈ L1, x ∈ X) ∧ L1.length ≤ X.length ∧ SF L1 (fput f r none) ∧ (decide (e = 0)) = (f r).isSome := by
  have ha := sf_any (r := r) hs
  have hl := rem_len h
  cases hf : (f r).isSome with
  | true =>
    rw [hf] at ha
    rw [rem_has (wr_0 hok hr) ha] at h
    injection h with h1 h2; subst h1 h2
    refine ⟨⟨fun x hx => hok.1 x (List.mem_filter.1 hx).1, hok.2.filter _⟩, fun x hx => (List.mem_filter.1 hx).1, hl, fun g c => ?_, by simp⟩
    unfold fput remL
    by_cases e : g = r
    · subst e; simp
    · rw [if_neg e, hs g c, List.mem_filter]; simp [e]
  | false =>
    rw [hf] at ha
    rw [rem_no (wr_0 hok hr) ha] at h
    injection h with h1 h2; subst h1 h2
    refine ⟨hok, fun x hx => hx, Nat.le_refl _, fun g c => ?_, by decide⟩
    unfold fput
    by_cases e : g = r
    · subst e
      rw [if_pos rfl]
      refine ⟨fun h => (by cases h), fun h => ?_⟩
      rw [(hs g c).2 h] at hf; cases hf
    · rw [if_neg e]; exact hs g c
theorem fair_add {X L1 : List E44} {f : Int → Option Int} {r t e : Int} (hok : okA X) (hs : SF X f) (hr : 0 ≤ r ∧ r ≤ 7) (ht : 0 ≤ t ∧ t ≤ 1000000) (hle : ∀ x ∈ X, x.f1 ≤ t) (h : addF X r t = (L1, e)) :
    e = 0 ∧ okA L1 ∧ (∀ x ∈ L1, x.f1 ≤ t) ∧ L1.length ≤ X.length + 1 ∧ ((f r).isSome = true → SF L1 f) ∧ ((f r).isSome = false → SF L1 (fput f r (some t))) := by
  have ha := sf_any (r := r) hs
  have hl := add_len h
  have h0 : lateA X r t = 0 := by
    unfold lateA; rw [if_pos hok, if_pos ⟨hr, ht, fun x hx => hle x (List.mem_of_getElem? hx)⟩]
  cases hf : (f r).isSome with
  | true =>
    rw [hf] at ha
    rw [add_has0 h0 ha] at h
    injection h with h1 h2; subst h1 h2
    exact ⟨rfl, hok, hle, hl, fun _ => hs, fun h => by cases h⟩
  | false =>
    rw [hf] at ha
    rw [add_new h0 ha] at h
    injection h with h1 h2; subst h1 h2
    have hne : ∀ x ∈ X, x.f0 ≠ r := fun x hx => by
      have := List.any_eq_false.1 ha x hx; simpa using this
    refine ⟨rfl, ⟨fun x hx => ?_, ?_⟩, fun x hx => ?_, hl, (fun h => by cases h), fun _ g c => ?_⟩
    · rcases List.mem_append.1 hx with hx | hx
      · exact hok.1 x hx
      · rw [List.mem_singleton.1 hx]; exact ⟨hr, ht⟩
    · rw [List.pairwise_append]
      exact ⟨hok.2, by simp, fun x hx y hy => by rw [List.mem_singleton.1 hy]; exact ⟨hle x hx, hne x hx⟩⟩
    · rcases List.mem_append.1 hx with hx | hx
      · exact hle x hx
      · rw [List.mem_singleton.1 hx]; exact Int.le_refl _
    · unfold fput
      rw [List.mem_append, List.mem_singleton]
      by_cases e : g = r
      · subst e
        rw [if_pos rfl]
        constructor
        · intro h; injection h with h; subst h; exact .inr rfl
        · rintro (h | h)
          · exact absurd rfl (hne _ h)
          · injection h with _ h; rw [h]
      · rw [if_neg e, hs g c]
        constructor
        · exact .inl
        · rintro (h | h)
          · exact h
          · injection h with h _; exact absurd h e
theorem due_at {X : List E44} {M : List Int} {f : Int → Option Int} {t u x : Int} {i : Nat} (hok : okA X) (hs : SF X f) (ht : 0 ≤ t ∧ t ≤ 1000000) (hu : 0 ≤ u ∧ u ≤ 1000000) (hM : expF X t u = M) (hx : M[i]? = some x) :
    ∃ c, f x = some c ∧ u ≤ t - c ∧ (0 ≤ x ∧ x ≤ 7) ∧ (0 ≤ c ∧ c ≤ 1000000) ∧ x ∉ M.take i ∧ ∀ (j : Nat) (y : Int), j < i → M[j]? = some y → ∃ d, f y = some d ∧ d ≤ c ∧ (0 ≤ y ∧ y ≤ 7) := by
  rw [exp_ok hok ht hu] at hM
  subst hM
  unfold expL at hx ⊢
  have hp : (X.filter (fun x : E44 => decide (x.f1 ≤ t - u))).Pairwise lt2 := hok.2.filter _
  have hmem : ∀ z ∈ X.filter (fun x : E44 => decide (x.f1 ≤ t - u)), z ∈ X ∧ z.f1 ≤ t - u := fun z hz => by
    obtain ⟨h1, h2⟩ := List.mem_filter.1 hz; exact ⟨h1, by simpa using h2⟩
  generalize X.filter (fun x : E44 => decide (x.f1 ≤ t - u)) = Z at hx hp hmem
  rw [List.getElem?_map] at hx
  obtain ⟨z, hz, rfl⟩ := Option.map_eq_some_iff.1 hx
  obtain ⟨hi1, hi2⟩ := List.getElem?_eq_some_iff.1 hz
  have hzm := hmem z (List.mem_of_getElem? hz)
  have hzk := hok.1 z hzm.1
  have hpp := List.pairwise_iff_getElem.1 hp
  refine ⟨z.f1, (hs _ _).2 hzm.1, by omega, hzk.1, hzk.2, fun h => ?_, fun j y hj hy => ?_⟩
  · obtain ⟨j, hj⟩ := List.getElem?_of_mem h
    rw [List.getElem?_take] at hj
    split at hj
    · rename_i hji
      rw [List.getElem?_map] at hj
      obtain ⟨q, hq, hqz⟩ := Option.map_eq_some_iff.1 hj
      obtain ⟨hj1, hj2⟩ := List.getElem?_eq_some_iff.1 hq
      have := (hpp j i hj1 hi1 hji).2
      rw [hj2, hi2] at this; exact this hqz
    · cases hj
  · rw [List.getElem?_map] at hy
    obtain ⟨q, hq, rfl⟩ := Option.map_eq_some_iff.1 hy
    obtain ⟨hj1, hj2⟩ := List.getElem?_eq_some_iff.1 hq
    have h1 := (hpp j i hj1 hi1 hj).1
    rw [hj2, hi2] at h1
    have hqm := hmem q (List.mem_of_getElem? hq)
    exact ⟨q.f1, (hs _ _).2 hqm.1, h1, (hok.1 q hqm.1).1⟩
theorem due_mem {X : List E44} {M : List Int} {f : Int → Option Int} {t u g c : Int} (hok : okA X) (hs : SF X f) (ht : 0 ≤ t ∧ t ≤ 1000000) (hu : 0 ≤ u ∧ u ≤ 1000000) (hM : expF X t u = M) (hf : f g = some c) (hc : u ≤ t - c) : g ∈ M := by
  rw [exp_ok hok ht hu] at hM
  subst hM
  unfold expL
  exact List.mem_map.2 ⟨⟨g, c⟩, List.mem_filter.2 ⟨(hs g c).1 hf, by simp; omega⟩, rfl⟩
theorem seen_step {M : List Int} {fs : Int → Bool} {i : Nat} {x : Int} (h : ∀ y, fs y = true ↔ y ∈ M.take i) (hx : M[i]? = some x) : ∀ y, fput fs x true y = true ↔ y ∈ M.take (i + 1) := by
  intro y
  rw [take_snoc hx, List.mem_append, List.mem_singleton]
  unfold fput
  by_cases e : y = x
  · rw [if_pos e]; simp [e]
  · rw [if_neg e, h y]; simp [e]
theorem seen_all {M : List Int} {fs : Int → Bool} {i : Nat} (h : ∀ y, fs y = true ↔ y ∈ M.take i) (hi : M.length ≤ i) {y : Int} (hy : y ∈ M) : fs y = true := by
  rw [h, List.take_of_length_le hi]; exact hy
theorem seen_no {M : List Int} {fs : Int → Bool} {i : Nat} (h : ∀ y, fs y = true ↔ y ∈ M.take i) {y : Int} (hy : y ∉ M.take i) : fs y = false := by
  cases hf : fs y with
  | true => exact absurd ((h y).1 hf) hy
  | false => rfl

end Go.Proofs.Ytffaminjbcfojaa

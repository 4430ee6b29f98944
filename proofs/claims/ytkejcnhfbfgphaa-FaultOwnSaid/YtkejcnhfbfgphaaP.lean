/- walks, printed by wip/gen -/
import Derived.Test.YtkejcnhfbfgphaaD
import Derived.Test.YtkejcnhfbfgphaaB
namespace Go.Proofs.Ytkejcnhfbfgphaa
open Go.RowKit
set_option linter.unusedVariables false
set_option linter.unusedSimpArgs false

/- scripts of faults -/
def validR (r : E37) : Prop := (r.f5 = 0 ∨ r.f5 = 10 ∨ r.f5 = 11 ∨ r.f5 = 13 ∨ r.f5 = 50) ∧ (r.f0 = 0 ∨ r.f0 = 1 ∨ r.f0 = 2 ∨ r.f0 = 3) ∧ (0 ≤ r.f1 ∧ r.f1 ≤ r.f2 ∧ r.f2 < 128) ∧ (0 ≤ r.f3 ∧ r.f3 ≤ 1000000) ∧ (r.f4 = -1 ∨ (0 ≤ r.f4 ∧ r.f4 ≤ 1000000)) ∧ (0 ≤ r.f6 ∧ r.f6 ≤ 128) ∧ (0 ≤ r.f8 ∧ r.f8 ≤ 1000000)
instance (r : E37) : Decidable (validR r) := by unfold validR; infer_instance
def matchR (r : E37) (k s c : Int) : Prop := (k = 1 ∨ k = 2 ∨ k = 3) ∧ (0 ≤ s ∧ s ≤ 128) ∧ (0 ≤ c ∧ c ≤ 128) ∧ (r.f0 = 0 ∨ r.f0 = k) ∧ (k = 3 ∨ (1 ≤ c ∧ s ≤ r.f2 ∧ r.f1 < s + c ∧ r.f1 ≤ r.f2))
instance (r : E37) (k s c : Int) : Decidable (matchR r k s c) := by unfold matchR; infer_instance
def scriptB (L : List E37) : Bool := decide (L.length ≤ 16) && !(L.any (fun r => !(decide (validR r))))
theorem script_inv {L : List E37} (h : scriptB L = true) : (∀ r ∈ L, validR r) ∧ L.length ≤ 16 := by
  unfold scriptB at h
  simp at h
  exact ⟨fun r hr => h.2 r hr, h.1⟩
theorem script_mk {L : List E37} (h1 : ∀ r ∈ L, validR r) (h2 : L.length ≤ 16) : scriptB L = true := by
  unfold scriptB; simp; exact ⟨h2, h1⟩
theorem script_no {L : List E37} (h : ¬ L.length ≤ 16) : false = scriptB L := by unfold scriptB; rw [decide_eq_false h]; rfl
theorem script_ex {L : List E37} {r : E37} {k : Nat} (hx : L[k]? = some r) (h : ¬ validR r) : false = scriptB L := by
  symm
  cases hs : scriptB L with
  | false => rfl
  | true => exact absurd ((script_inv hs).1 r (List.mem_of_getElem? hx)) h
theorem script_all {L : List E37} {k : Nat} (h : ∀ r ∈ L.take k, validR r) (hk : L.length ≤ k) : decide ((L.length : Int) ≤ 16) = scriptB L := by
  rw [List.take_of_length_le hk] at h
  by_cases h2 : L.length ≤ 16
  · rw [script_mk h h2]; exact decide_eq_true (by omega)
  · rw [← script_no h2]; exact decide_eq_false (by omega)
def quietB (L : List E37) : Bool := !(L.any (fun r => decide (r.f4 ≠ 0)))
structure Oc where
  e : Int
  dn : Int
  hf : Bool
  dl : Int
deriving DecidableEq
def ocR (r : E37) : Oc := ⟨r.f5, r.f6, r.f7, r.f8⟩
def zeroO : Oc := ⟨0, 0, false, 0⟩
def lessS (r : E37) : E37 := ⟨r.f0, r.f1, r.f2, r.f3 - 1, r.f4, r.f5, r.f6, r.f7, r.f8⟩
def lessT (r : E37) : E37 := ⟨r.f0, r.f1, r.f2, r.f3, r.f4 - 1, r.f5, r.f6, r.f7, r.f8⟩
def goF (k s c : Int) : List E37 → List E37 × Option Oc
  | [] => ([], none)
  | r :: t => if ¬ matchR r k s c ∨ (r.f3 = 0 ∧ r.f4 = 0) then (r :: (goF k s c t).1, (goF k s c t).2)
    else if 0 < r.f3 then (lessS r :: (goF k s c t).1, (goF k s c t).2)
    else if 0 < r.f4 then (lessT r :: t, some (ocR r)) else (r :: t, some (ocR r))
def stepF (L : List E37) (k s c : Int) : List E37 × Oc := if scriptB L = true then ((goF k s c L).1, (goF k s c L).2.getD zeroO) else (L, zeroO)
theorem step_bad {L : List E37} {k s c : Int} (h : scriptB L = false) : stepF L k s c = (L, zeroO) := by unfold stepF; rw [h]; rfl
theorem step_len {L L1 : List E37} {k s c : Int} {o : Oc} (h : stepF L k s c = (L1, o)) : L1.length = L.length := by
  have hg : ∀ M : List E37, (goF k s c M).1.length = M.length := fun M => by
    induction M with
    | nil => rfl
    | cons r t ih => unfold goF; split
                     · simp [ih]
                     · split
                       · simp [ih]
                       · split <;> simp
  unfold stepF at h
  split at h
  · injection h with h _; rw [← h, hg]
  · injection h with h _; rw [h]
section
variable {L Pf : List E37} {i : Nat} {x z : E37} {k s c : Int}
/-- the state of the walk through a script -/
structure Go (L : List E37) (k s c : Int) (Pf : List E37) (i : Nat) : Prop where
  le : i ≤ L.length
  len : Pf.length = i
  go : goF k s c L = (Pf ++ (goF k s c (L.drop i)).1, (goF k s c (L.drop i)).2)
theorem go_zero : Go L k s c [] 0 := ⟨Nat.zero_le _, rfl, by simp⟩
theorem go_at (h : Go L k s c Pf i) (hx : (Pf ++ L.drop i)[i]? = some x) : L.drop i = x :: L.drop (i + 1) ∧ L[i]? = some x ∧ i < L.length := by
  have hl := h.len
  rw [List.getElem?_append_right (by omega), show i - Pf.length = 0 by omega, List.getElem?_drop, Nat.add_zero] at hx
  obtain ⟨h1, h2⟩ := List.getElem?_eq_some_iff.1 hx
  refine ⟨?_, hx, h1⟩
  rw [List.drop_eq_getElem_cons h1, h2]
theorem go_len (h : Go L k s c Pf i) : (Pf ++ L.drop i).length = L.length := by have := h.len; have := h.le; simp; omega
theorem go_next (h : Go L k s c Pf i) (hx : (Pf ++ L.drop i)[i]? = some x) (hg : goF k s c (x :: L.drop (i + 1)) = (z :: (goF k s c (L.drop (i + 1))).1, (goF k s c (L.drop (i + 1))).2)) : Go L k s c (Pf ++ [z]) (i + 1) := by
  obtain ⟨h1, h2, h3⟩ := go_at h hx
  refine ⟨h3, by simp [h.len], ?_⟩
  rw [h.go, h1, hg]; simp
theorem go_same (h : Go L k s c Pf i) (hx : (Pf ++ L.drop i)[i]? = some x) : Pf ++ L.drop i = (Pf ++ [x]) ++ L.drop (i + 1) := by rw [(go_at h hx).1]; simp
theorem go_set (h : Go L k s c Pf i) (hx : (Pf ++ L.drop i)[i]? = some x) : (Pf ++ L.drop i).set i z = (Pf ++ [z]) ++ L.drop (i + 1) := by
  rw [(go_at h hx).1, List.set_append_right _ _ (by have := h.len; omega), show i - Pf.length = 0 by have := h.len; omega]; simp
theorem go_1 {t : List E37} (h : ¬ matchR x k s c ∨ (x.f3 = 0 ∧ x.f4 = 0)) : goF k s c (x :: t) = (x :: (goF k s c t).1, (goF k s c t).2) := by rw [goF, if_pos h]
theorem go_2 {t : List E37} (h : matchR x k s c) (h2 : 0 < x.f3) : goF k s c (x :: t) = (lessS x :: (goF k s c t).1, (goF k s c t).2) := by
  rw [goF, if_neg (by rintro (h3 | h3); exact h3 h; omega), if_pos h2]
theorem go_3 {t : List E37} (h : matchR x k s c) (h2 : x.f3 = 0) (h4 : 0 < x.f4) : goF k s c (x :: t) = (lessT x :: t, some (ocR x)) := by
  rw [goF, if_neg (by rintro (h3 | h3); exact h3 h; omega), if_neg (by omega), if_pos h4]
theorem go_4 {t : List E37} (h : matchR x k s c) (h2 : x.f3 = 0) (h4 : x.f4 < 0) : goF k s c (x :: t) = (x :: t, some (ocR x)) := by
  rw [goF, if_neg (by rintro (h3 | h3); exact h3 h; omega), if_neg (by omega), if_neg (by omega)]
theorem step_end (hs : scriptB L = true) (h : Go L k s c Pf i) (hi : L.length ≤ i) : stepF L k s c = (Pf ++ L.drop i, zeroO) := by
  unfold stepF; rw [if_pos hs, h.go, List.drop_eq_nil_of_le hi]; rfl
theorem step_3 (hs : scriptB L = true) (h : Go L k s c Pf i) (hx : (Pf ++ L.drop i)[i]? = some x) (hm : matchR x k s c) (h2 : x.f3 = 0) (h4 : 0 < x.f4) : stepF L k s c = ((Pf ++ L.drop i).set i (lessT x), ocR x) := by
  unfold stepF; rw [if_pos hs, h.go, go_set h hx, (go_at h hx).1, go_3 hm h2 h4]; simp
theorem step_4 (hs : scriptB L = true) (h : Go L k s c Pf i) (hx : (Pf ++ L.drop i)[i]? = some x) (hm : matchR x k s c) (h2 : x.f3 = 0) (h4 : x.f4 < 0) : stepF L k s c = (Pf ++ L.drop i, ocR x) := by
  unfold stepF; rw [if_pos hs, h.go, (go_at h hx).1, go_4 hm h2 h4]; rfl
theorem go_mem (hs : scriptB L = true) (h : Go L k s c Pf i) (hx : (Pf ++ L.drop i)[i]? = some x) : validR x := (script_inv hs).1 x (List.mem_of_getElem? (go_at h hx).2.1)
end
theorem all_app {L : List E37} {p : E37 → Prop} {x : E37} (h : ∀ e ∈ L, p e) (hx : p x) : ∀ e ∈ L ++ [x], p e := by
  intro e he
  rcases List.mem_append.1 he with he | he
  · exact h e he
  · simp at he; subst he; exact hx
theorem all_take {L : List E37} {p : E37 → Prop} {k : Nat} {x : E37} (h : ∀ e ∈ L.take k, p e) (hx : L[k]? = some x) (hp : p x) : ∀ e ∈ L.take (k + 1), p e := by
  intro e he
  rw [List.take_add_one, hx] at he
  simp at he
  rcases he with he | rfl
  · exact h e he
  · exact hp
/-- scripts that are quiet -/
theorem go_quiet {k s c : Int} : ∀ {L : List E37}, (∀ r ∈ L, r.f3 = 0 ∧ r.f4 = 0) → goF k s c L = (L, none)
  | [], _ => rfl
  | r :: t, h => by rw [go_1 (.inr (h r (by simp))), go_quiet (fun x hx => h x (List.mem_cons_of_mem _ hx))]
theorem step_quiet {L : List E37} {k s c : Int} (h : ∀ r ∈ L, r.f3 = 0 ∧ r.f4 = 0) : stepF L k s c = (L, zeroO) := by
  unfold stepF; rw [go_quiet h]; split <;> rfl
theorem quiet_yes {L : List E37} (h : ∀ r ∈ L, r.f3 = 0 ∧ r.f4 = 0) : quietB L = true := by
  unfold quietB; simp; exact fun r hr => (h r hr).2
structure Qz (M : List E37) (n k : Nat) : Prop where
  len : M.length = n
  z : ∀ r ∈ M.take k, r.f3 = 0 ∧ r.f4 = 0
theorem qz_next {M : List E37} {n k : Nat} {z1 z2 : E37} (h : Qz M n k) (hk : k < M.length) (hz : z2.f3 = 0 ∧ z2.f4 = 0) : Qz ((M.set k z1).set k z2) n (k + 1) := by
  refine ⟨by simp [h.len], fun r hr => ?_⟩
  rw [List.set_set, List.take_add_one, List.getElem?_set_self (by simpa using hk)] at hr
  simp at hr
  rcases hr with hr | rfl
  · rw [List.take_set_of_le (Nat.le_refl k)] at hr; exact h.z r hr
  · exact hz
theorem qz_all {M : List E37} {n k : Nat} (h : Qz M n k) (hk : n ≤ k) : ∀ r ∈ M, r.f3 = 0 ∧ r.f4 = 0 := by
  have := h.z; rwa [List.take_of_length_le (by rw [h.len]; exact hk)] at this
/-- one rule alone -/
theorem one_step {f l sk tm er dn dl : Int} {hf : Bool} {L1 : List E37} {o : Oc} (hv : validR ⟨1, f, l, sk, tm, er, dn, hf, dl⟩) (hst : stepF [⟨1, f, l, sk, tm, er, dn, hf, dl⟩] 1 f 1 = (L1, o)) :
    ∃ sk' tm', L1 = [⟨1, f, l, sk', tm', er, dn, hf, dl⟩] ∧ ((0 < sk ∧ sk' = sk - 1 ∧ tm' = tm ∧ o = zeroO) ∨ (sk = 0 ∧ tm = 0 ∧ sk' = 0 ∧ tm' = 0 ∧ o = zeroO) ∨ (sk = 0 ∧ 0 < tm ∧ sk' = 0 ∧ tm' = tm - 1 ∧ o = ⟨er, dn, hf, dl⟩) ∨ (sk = 0 ∧ tm < 0 ∧ sk' = 0 ∧ tm' = tm ∧ o = ⟨er, dn, hf, dl⟩)) := by
  have hs : scriptB [(⟨1, f, l, sk, tm, er, dn, hf, dl⟩ : E37)] = true := script_mk (by simpa using hv) (by simp)
  have hv2 := hv; unfold validR at hv2; dsimp only at hv2
  have hm : matchR ⟨1, f, l, sk, tm, er, dn, hf, dl⟩ 1 f 1 := by unfold matchR; dsimp only; omega
  unfold stepF at hst
  rw [if_pos hs] at hst
  by_cases h1 : 0 < sk
  · rw [go_2 hm h1] at hst; injection hst with h2 h3
    exact ⟨sk - 1, tm, h2.symm, .inl ⟨h1, rfl, rfl, h3.symm⟩⟩
  · by_cases h4 : tm = 0
    · rw [go_1 (.inr ⟨by show sk = 0; omega, h4⟩)] at hst; injection hst with h2 h3
      exact ⟨sk, tm, h2.symm, .inr (.inl ⟨by omega, h4, by omega, h4, h3.symm⟩)⟩
    · by_cases h5 : 0 < tm
      · rw [go_3 hm (show sk = 0 by omega) h5] at hst; injection hst with h2 h3
        exact ⟨sk, tm - 1, h2.symm, .inr (.inr (.inl ⟨by omega, h5, by omega, rfl, h3.symm⟩))⟩
      · rw [go_4 hm (show sk = 0 by omega) (show tm < 0 by omega)] at hst; injection hst with h2 h3
        exact ⟨sk, tm, h2.symm, .inr (.inr (.inr ⟨by omega, by omega, by omega, rfl, h3.symm⟩))⟩

end Go.Proofs.Ytkejcnhfbfgphaa

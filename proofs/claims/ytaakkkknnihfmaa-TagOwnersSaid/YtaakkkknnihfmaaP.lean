/- walks, printed by wip/gen -/
import Derived.Test.YtaakkkknnihfmaaD
import Derived.Test.YtaakkkknnihfmaaB
namespace Go.Proofs.Ytaakkkknnihfmaa
open Go.RowKit
set_option linter.unusedVariables false
set_option linter.unusedSimpArgs false

/- tags -/
def validT (L : List Int) (r c : Int) : Prop := (1 ≤ L.length ∧ L.length ≤ 8) ∧ (0 ≤ r ∧ r < (L.length : Int)) ∧ (1 ≤ c ∧ c ≤ 8) ∧ ∀ x ∈ L, -1 ≤ x ∧ x ≤ 4
instance (L : List Int) (r c : Int) : Decidable (validT L r c) := by unfold validT; infer_instance
theorem valid_no {L : List Int} {r c : Int} (h : ¬ ((1 ≤ L.length ∧ L.length ≤ 8) ∧ (0 ≤ r ∧ r < (L.length : Int)) ∧ (1 ≤ c ∧ c ≤ 8))) : false = decide (validT L r c) := dec_f (fun h2 => h ⟨h2.1, h2.2.1, h2.2.2.1⟩)
theorem valid_any {L : List Int} {r c : Int} (h : (1 ≤ L.length ∧ L.length ≤ 8) ∧ (0 ≤ r ∧ r < (L.length : Int)) ∧ (1 ≤ c ∧ c ≤ 8)) : (!(List.any L (fun x => decide (x ≠ -1 ∧ ¬ (0 ≤ x ∧ x ≤ 4))))) = decide (validT L r c) := by
  cases hb : List.any L (fun x => decide (x ≠ -1 ∧ ¬ (0 ≤ x ∧ x ≤ 4))) with
  | true =>
    obtain ⟨x, hx, hp⟩ := List.any_eq_true.1 hb
    rw [decide_eq_true_eq] at hp
    exact dec_f (fun h2 => by have := h2.2.2.2 x hx; omega)
  | false =>
    refine dec_t ⟨h.1, h.2.1, h.2.2, fun x hx => ?_⟩
    have := List.any_eq_false.1 hb x hx
    rw [decide_eq_true_eq] at this; omega
theorem valid_ex {L : List Int} {r c x : Int} {k : Nat} (hx : L[k]? = some x) (h : x < -1 ∨ 4 < x) : false = decide (validT L r c) := dec_f (fun h2 => by have := h2.2.2.2 x (List.mem_of_getElem? hx); omega)
theorem valid_all {L : List Int} {r c : Int} {k : Nat} (h : (1 ≤ L.length ∧ L.length ≤ 8) ∧ (0 ≤ r ∧ r < (L.length : Int)) ∧ (1 ≤ c ∧ c ≤ 8)) (ha : ∀ x ∈ L.take k, -1 ≤ x ∧ x ≤ 4) (hk : L.length ≤ k) : true = decide (validT L r c) := by
  rw [List.take_of_length_le hk] at ha
  exact dec_t ⟨h.1, h.2.1, h.2.2, ha⟩
theorem cnt_step_yes {L : List Int} {v x : Int} {k : Nat} (hx : L[k]? = some x) (h : x = v) : (L.take (k + 1)).count v = (L.take k).count v + 1 := by
  rw [List.take_add_one, hx, List.count_append]; simp [h]
theorem cnt_step_no {L : List Int} {v x : Int} {k : Nat} (hx : L[k]? = some x) (h : ¬ x = v) : (L.take (k + 1)).count v = (L.take k).count v := by
  rw [List.take_add_one, hx, List.count_append]; simp [h]
def countF (L : List Int) (r c v : Int) : Int := if validT L r c then (L.count v : Int) else 0
theorem count_yes {L : List Int} {r c v : Int} (h : validT L r c) : countF L r c v = (L.count v : Int) := if_pos h
theorem count_no {L : List Int} {r c v : Int} (h : ¬ validT L r c) : countF L r c v = 0 := if_neg h
theorem count_in (L : List Int) (r c v : Int) : 0 ≤ countF L r c v ∧ countF L r c v ≤ 8 := by
  unfold countF; split
  · rename_i h; have := h.1; have := List.count_le_length (a := v) (l := L); omega
  · omega
def heldF (L : List Int) (r c t : Int) : Int := if 0 ≤ t ∧ t ≤ 4 then countF L r c t else 0
theorem held_yes {L : List Int} {r c t : Int} (h : 0 ≤ t ∧ t ≤ 4) : heldF L r c t = countF L r c t := if_pos h
theorem held_no {L : List Int} {r c t : Int} (h : ¬ (0 ≤ t ∧ t ≤ 4)) : heldF L r c t = 0 := if_neg h
theorem held_in (L : List Int) (r c t : Int) : 0 ≤ heldF L r c t ∧ heldF L r c t ≤ 8 := by
  unfold heldF; split
  · exact count_in L r c t
  · omega
theorem held_bad {L : List Int} {r c t : Int} (h : ¬ validT L r c ∨ t < 0) : heldF L r c t = 0 := by
  unfold heldF; split
  · rename_i h1; rcases h with h | h
    · exact count_no h
    · omega
  · rfl
theorem held_cnt {L : List Int} {r c t : Int} (h : validT L r c) (ht : 0 ≤ t) : heldF L r c t = (L.count t : Int) := by
  unfold heldF; split
  · exact count_yes h
  · have : L.count t = 0 := List.count_eq_zero.2 (fun hm => by have := h.2.2.2 t hm; omega)
    rw [this]; rfl
/-- Get, Put, New -/
def badG (L : List Int) (r c t : Int) (u : Bool) : Prop := ¬ (0 ≤ t ∧ t ≤ 4) ∨ countF L r c (-1) = 0 ∨ (u = false ∧ (countF L r c (-1) ≤ r ∨ c ≤ heldF L r c t))
instance (L : List Int) (r c t : Int) (u : Bool) : Decidable (badG L r c t u) := by unfold badG; infer_instance
def getF (L : List Int) (r c t : Int) (u : Bool) : List Int × Int × Bool :=
  if badG L r c t u then (L, -1, false) else (L.set (L.findIdx (fun x => decide (-1 = x))) t, ((L.findIdx (fun x => decide (-1 = x)) : Nat) : Int), true)
theorem get_no {L : List Int} {r c t : Int} {u : Bool} (h : badG L r c t u) : getF L r c t u = (L, -1, false) := if_pos h
theorem free_valid {L : List Int} {r c : Int} (h : ¬ countF L r c (-1) = 0) : validT L r c ∧ (-1 : Int) ∈ L := by
  by_cases hv : validT L r c
  · rw [count_yes hv] at h
    exact ⟨hv, List.count_pos_iff.1 (by omega)⟩
  · exact absurd (count_no hv) h
theorem get_at {L : List Int} {r c t : Int} {u : Bool} {k : Nat} {x : Int} (h : ¬ badG L r c t u) (hx : L[k]? = some x) (hm : x = -1) (hb : ∀ y ∈ L.take k, y ≠ -1) : getF L r c t u = (L.set k t, (k : Int), true) := by
  have h1 : (k : Int) = idxF (fun y : Int => decide (-1 = y)) L := idx_hit hx (by rw [hm]; rfl) (fun y hy => decide_eq_false (fun e => hb y hy e.symm))
  have hk := (List.getElem?_eq_some_iff.1 hx).1
  have h2 : L.findIdx (fun y => decide (-1 = y)) = k := by
    unfold idxF at h1
    split at h1 <;> omega
  unfold getF; rw [if_neg h, h2]
theorem get_idx {L : List Int} {r c t : Int} {u : Bool} {k : Nat} (h : ¬ badG L r c t u) (hk : idxF (fun y : Int => decide (-1 = y)) L = (k : Int)) : getF L r c t u = (L.set k t, (k : Int), true) := by
  have h2 : L.findIdx (fun y => decide (-1 = y)) = k := by
    unfold idxF at hk
    split at hk <;> omega
  unfold getF; rw [if_neg h, h2]
theorem free_lt {L : List Int} {k : Nat} (h : (-1 : Int) ∈ L) (hb : ∀ y ∈ L.take k, y ≠ -1) : k < L.length := by
  rcases Nat.lt_or_ge k L.length with h1 | h1
  · exact h1
  · rw [List.take_of_length_le h1] at hb; exact absurd rfl (hb _ h)
theorem ne_step {L : List Int} {k : Nat} {x : Int} (hx : L[k]? = some x) (h : x ≠ -1) (hb : ∀ y ∈ L.take k, y ≠ -1) : ∀ y ∈ L.take (k + 1), y ≠ -1 := by
  intro e he
  rw [List.take_add_one, hx] at he
  simp at he
  rcases he with he | rfl
  · exact hb e he
  · exact h
theorem in_step {L : List Int} {k : Nat} {x : Int} (hx : L[k]? = some x) (h : -1 ≤ x ∧ x ≤ 4) (hb : ∀ y ∈ L.take k, -1 ≤ y ∧ y ≤ 4) : ∀ y ∈ L.take (k + 1), -1 ≤ y ∧ y ≤ 4 := by
  intro e he
  rw [List.take_add_one, hx] at he
  simp at he
  rcases he with he | rfl
  · exact hb e he
  · exact h
def putF (L : List Int) (r c k : Int) : List Int × Bool :=
  if validT L r c ∧ (0 ≤ k ∧ k < (L.length : Int)) ∧ (L[k.toNat]?).getD (-1) ≠ -1 then (L.set k.toNat (-1), true) else (L, false)
theorem put_no {L : List Int} {r c k : Int} (h : ¬ validT L r c ∨ ¬ (0 ≤ k ∧ k < (L.length : Int))) : putF L r c k = (L, false) := if_neg (fun h2 => by rcases h with h | h; exact h h2.1; exact h h2.2.1)
theorem put_free {L : List Int} {r c k x : Int} (hx : L[k.toNat]? = some x) (h : x = -1) : putF L r c k = (L, false) := if_neg (fun h2 => h2.2.2 (by rw [hx]; exact h))
theorem put_yes {L : List Int} {r c k x : Int} (hv : validT L r c) (hk : 0 ≤ k ∧ k < (L.length : Int)) (hx : L[k.toNat]? = some x) (h : ¬ x = -1) : putF L r c k = (L.set k.toNat (-1), true) := if_pos ⟨hv, hk, by rw [hx]; exact h⟩
structure Tg where
  L : List Int
  r : Int
  c : Int
deriving DecidableEq
def newF (n r c : Int) : Tg × Bool := if (1 ≤ n ∧ n ≤ 8) ∧ validT (List.replicate n.toNat (-1)) r c then (⟨List.replicate n.toNat (-1), r, c⟩, true) else (⟨[], 0, 0⟩, false)
theorem new_no1 {n r c : Int} (h : ¬ (1 ≤ n ∧ n ≤ 8)) : newF n r c = (⟨[], 0, 0⟩, false) := if_neg (fun h2 => h h2.1)
theorem new_no2 {n r c : Int} {L : List Int} (hL : L = List.replicate n.toNat (-1)) (h : ¬ validT L r c) : newF n r c = (⟨[], 0, 0⟩, false) := if_neg (fun h2 => h (hL ▸ h2.2))
theorem new_yes {n r c : Int} {L : List Int} (hL : L = List.replicate n.toNat (-1)) (hn : 1 ≤ n ∧ n ≤ 8) (h : validT L r c) : newF n r c = (⟨L, r, c⟩, true) := by subst hL; exact if_pos ⟨hn, h⟩
theorem rep_first {n : Nat} {x : Int} (hn : 1 ≤ n) : ((List.replicate n (0 : Int)).take 0 ++ ([x] : List Int).take (min ([x] : List Int).length (List.replicate n (0 : Int)).length) ++ (List.replicate n (0 : Int)).drop (0 + min ([x] : List Int).length (List.replicate n (0 : Int)).length)) = List.replicate 1 x ++ List.replicate (n - 1) 0 := by
  have e : min ([x] : List Int).length (List.replicate n (0 : Int)).length = 1 := by simp; omega
  rw [e]; simp
theorem rep_step {n m : Nat} {x : Int} (hm : 1 ≤ m) (hmn : m < n) {q : Nat} (hq : q = min ((List.replicate m x ++ List.replicate (n - m) (0 : Int)).take m).length ((List.replicate m x ++ List.replicate (n - m) (0 : Int)).length - m)) :
    1 ≤ q ∧ m + q ≤ n ∧ (List.replicate m x ++ List.replicate (n - m) (0 : Int)).take m ++ ((List.replicate m x ++ List.replicate (n - m) (0 : Int)).take m).take q ++ (List.replicate m x ++ List.replicate (n - m) (0 : Int)).drop (m + q) = List.replicate (m + q) x ++ List.replicate (n - (m + q)) 0 := by
  have e1 : (List.replicate m x ++ List.replicate (n - m) (0 : Int)).take m = List.replicate m x := by rw [List.take_append_of_le_length (by simp), List.take_of_length_le (by simp)]
  have e2 : (List.replicate m x ++ List.replicate (n - m) (0 : Int)).length = n := by simp; omega
  rw [e1, e2] at hq
  simp only [List.length_replicate] at hq
  refine ⟨by omega, by omega, ?_⟩
  have e3 : (List.replicate m x ++ List.replicate (n - m) (0 : Int)).drop (m + q) = List.replicate (n - (m + q)) (0 : Int) := by
    rw [List.drop_append, List.length_replicate, show (List.replicate m x).drop (m + q) = [] from List.drop_eq_nil_of_le (by simp), List.drop_replicate, List.nil_append]; congr 1; omega
  rw [e1, e3, List.take_replicate, Nat.min_eq_left (by omega), List.replicate_append_replicate]
theorem cnt_le (L : List Int) (v : Int) (k : Nat) : (L.take k).count v ≤ k := Nat.le_trans List.count_le_length (by simp; omega)
theorem cnt_all {L : List Int} {v : Int} {k : Nat} {s : Int} (hs : s = ((L.take k).count v : Int)) (hk : L.length ≤ k) : s = (L.count v : Int) := by rw [hs, List.take_of_length_le hk]
theorem idx_mem {L : List Int} (h : (-1 : Int) ∈ L) : ∃ k : Nat, idxF (fun y : Int => decide (-1 = y)) L = (k : Int) ∧ k < L.length := by
  have h1 : L.findIdx (fun y : Int => decide (-1 = y)) < L.length := List.findIdx_lt_length_of_exists ⟨_, h, by simp⟩
  exact ⟨_, by unfold idxF; rw [if_pos h1], h1⟩
theorem notbad {L : List Int} {r c t : Int} {u : Bool} (h1 : 0 ≤ t ∧ t ≤ 4) (h2 : ¬ countF L r c (-1) = 0) (h3 : u = true ∨ ¬ (countF L r c (-1) ≤ r ∨ c ≤ heldF L r c t)) : ¬ badG L r c t u := by
  rintro (h | h | ⟨h, h4⟩)
  · exact h h1
  · exact h2 h
  · rcases h3 with h3 | h3
    · rw [h3] at h; cases h
    · exact h3 h4
theorem get_len {L L1 : List Int} {r c t k : Int} {u b : Bool} (h : getF L r c t u = (L1, k, b)) : L1.length = L.length := by
  unfold getF at h; split at h
  · injection h with h; rw [h]
  · injection h with h; rw [← h, List.length_set]
theorem put_len {L L1 : List Int} {r c k : Int} {b : Bool} (h : putF L r c k = (L1, b)) : L1.length = L.length := by
  unfold putF at h; split at h
  · injection h with h; rw [← h, List.length_set]
  · injection h with h; rw [h]
theorem set_eq {L : List Int} {i : Nat} {x : Int} (h : L[i]? = some x) : L.set i x = L := by
  obtain ⟨h1, h2⟩ := List.getElem?_eq_some_iff.1 h
  rw [← h2]; exact List.set_getElem_self h1
theorem rep_succ (k : Nat) : List.replicate k (-1 : Int) ++ ([-1] : List Int) = List.replicate (k + 1) (-1) := List.replicate_succ'.symm
theorem new_alt {n r c r1 c1 : Int} {M : List Int} {b : Bool} (h : newF n r c = (⟨M, r1, c1⟩, b)) : (M = [] ∧ r1 = 0 ∧ c1 = 0) ∨ (validT M r1 c1 ∧ ∀ x ∈ M, x = -1) := by
  unfold newF at h; split at h
  · rename_i h2
    injection h with h h3; injection h with h h4 h5; subst h h4 h5
    exact .inr ⟨h2.2, fun x hx => List.eq_of_mem_replicate hx⟩
  · injection h with h h3; injection h with h h4 h5; exact .inl ⟨h.symm, h4.symm, h5.symm⟩
theorem new_ok {n r c r1 c1 : Int} {M : List Int} {b : Bool} (h : newF n r c = (⟨M, r1, c1⟩, b)) (hM : ¬ M.length = 0) : validT M r1 c1 ∧ ∀ x ∈ M, x = -1 := by
  rcases new_alt h with h | h
  · exact absurd (by rw [h.1]; rfl) hM
  · exact h
theorem new_len {n r c r1 c1 : Int} {M : List Int} {b : Bool} (h : newF n r c = (⟨M, r1, c1⟩, b)) : M.length ≤ 8 := by
  rcases new_alt h with h | h
  · rw [h.1]; exact Nat.zero_le _
  · exact h.1.1.2
theorem new_4 {r1 c1 : Int} {M : List Int} {b : Bool} (h : newF 4 1 2 = (⟨M, r1, c1⟩, b)) : validT M r1 c1 ∧ ∀ x ∈ M, x = -1 := by
  have h4 : newF 4 1 2 = (⟨[-1, -1, -1, -1], 1, 2⟩, true) := by decide +kernel
  rw [h4] at h; injection h with h h3; injection h with h h5 h6; subst h h5 h6
  exact ⟨by decide, by decide⟩
theorem valid_set {L : List Int} {r c t : Int} {k : Nat} (h : validT L r c) (ht : -1 ≤ t ∧ t ≤ 4) : validT (L.set k t) r c := by
  obtain ⟨h1, h2, h3, h4⟩ := h
  refine ⟨by rw [List.length_set]; exact h1, by rw [List.length_set]; exact h2, h3, fun x hx => ?_⟩
  rcases List.mem_or_eq_of_mem_set hx with hx | rfl
  · exact h4 x hx
  · exact ht
theorem put_valid {L L1 : List Int} {r c k : Int} {b : Bool} (h : putF L r c k = (L1, b)) (hv : validT L r c) : validT L1 r c := by
  unfold putF at h; split at h
  · injection h with h; rw [← h]; exact valid_set hv ⟨by omega, by omega⟩
  · injection h with h; rw [← h]; exact hv
theorem get_true {L L1 : List Int} {r c t k : Int} {u : Bool} (h : getF L r c t u = (L1, k, true)) : ∃ i : Nat, k = (i : Int) ∧ L[i]? = some (-1) ∧ L1 = L.set i t ∧ (0 ≤ t ∧ t ≤ 4) ∧ validT L r c ∧ ¬ badG L r c t u := by
  unfold getF at h; split at h
  · injection h with h h2; injection h2 with h2 h3; cases h3
  · rename_i hb
    injection h with h h2; injection h2 with h2 h3
    have h4 : 0 ≤ t ∧ t ≤ 4 := Decidable.of_not_not (fun h9 => hb (.inl h9))
    obtain ⟨hv, hm⟩ := free_valid (fun h9 => hb (.inr (.inl h9)))
    have h5 : L.findIdx (fun y : Int => decide (-1 = y)) < L.length := List.findIdx_lt_length_of_exists ⟨_, hm, by simp⟩
    have h6 := List.findIdx_getElem (w := h5)
    rw [decide_eq_true_eq] at h6
    exact ⟨_, h2.symm, by rw [List.getElem?_eq_getElem h5, ← h6], h.symm, h4, hv, hb⟩
theorem get_false {L L1 : List Int} {r c t k : Int} {u : Bool} (h : getF L r c t u = (L1, k, false)) : L1 = L ∧ k = -1 := by
  unfold getF at h; split at h
  · injection h with h h2; injection h2 with h2 h3; exact ⟨h.symm, h2.symm⟩
  · injection h with h h2; injection h2 with h2 h3; cases h3
theorem get_valid {L L1 : List Int} {r c t k : Int} {u b : Bool} (h : getF L r c t u = (L1, k, b)) (hv : validT L r c) : validT L1 r c := by
  cases b with
  | false => rw [(get_false h).1]; exact hv
  | true => obtain ⟨i, _, _, h1, h2, _⟩ := get_true h; rw [h1]; exact valid_set hv ⟨by omega, by omega⟩
theorem cnt_set {L : List Int} {i : Nat} {x y v : Int} (hx : L[i]? = some x) : (L.set i y).count v + (if x = v then 1 else 0) = L.count v + (if y = v then 1 else 0) := by
  induction L generalizing i with
  | nil => cases hx
  | cons z L ih =>
    cases i with
    | zero =>
      simp at hx; subst hx
      rw [List.set_cons_zero, List.count_cons, List.count_cons]
      simp only [beq_iff_eq]; omega
    | succ i =>
      simp at hx
      have := ih hx
      rw [List.set_cons_succ, List.count_cons, List.count_cons]; omega
theorem free_get {L L1 : List Int} {r c t k : Int} {u : Bool} (h : getF L r c t u = (L1, k, true)) : countF L1 r c (-1) = countF L r c (-1) - 1 := by
  obtain ⟨i, _, hi, h1, h2, hv, _⟩ := get_true h
  have h3 := cnt_set (y := t) (v := -1) hi
  rw [if_pos rfl, if_neg (by omega)] at h3
  rw [h1, count_yes (valid_set hv ⟨by omega, by omega⟩), count_yes hv]; omega
theorem get_inv {L L1 : List Int} {r c t k : Int} {b : Bool} (h : getF L r c t false = (L1, k, b)) (hf : r ≤ countF L r c (-1)) (hc : ∀ x, heldF L r c x ≤ c) : r ≤ countF L1 r c (-1) ∧ ∀ x, heldF L1 r c x ≤ c := by
  cases b with
  | false => rw [(get_false h).1]; exact ⟨hf, hc⟩
  | true =>
    have hg := free_get h
    obtain ⟨i, _, hi, h1, h2, hv, hb⟩ := get_true h
    have h5 : ¬ (countF L r c (-1) ≤ r ∨ c ≤ heldF L r c t) := fun h9 => hb (.inr (.inr ⟨rfl, h9⟩))
    refine ⟨by omega, fun x => ?_⟩
    have hcx := hc x
    by_cases hx : 0 ≤ x ∧ x ≤ 4
    · have h3 := cnt_set (y := t) (v := x) hi
      rw [if_neg (by omega)] at h3
      have hv1 : validT L1 r c := by rw [h1]; exact valid_set hv ⟨by omega, by omega⟩
      rw [held_cnt hv1 hx.1, h1]
      rw [held_cnt hv hx.1] at hcx
      by_cases hxt : t = x
      · subst hxt
        rw [held_cnt hv hx.1] at h5
        rw [if_pos rfl] at h3; omega
      · rw [if_neg hxt] at h3; omega
    · rw [held_no hx]; rw [held_no hx] at hcx; exact hcx
theorem get_urgent {P : Prop} [Decidable P] {L L1 : List Int} {r c t k : Int} {b : Bool} (h : getF L r c t true = (L1, k, b)) (ht : 0 ≤ t ∧ t ≤ 4) (hp : P ↔ 0 < countF L r c (-1)) : b = decide P := by
  have h2 := count_in L r c (-1)
  cases b with
  | true => obtain ⟨i, _, hi, h1, _, hv, hb⟩ := get_true h; exact dec_t (hp.2 (by have : ¬ countF L r c (-1) = 0 := fun h9 => hb (.inr (.inl h9)); omega))
  | false =>
    refine dec_f (fun h9 => ?_)
    have h9 := hp.1 h9
    have hb : ¬ badG L r c t true := notbad ht (by omega) (.inl rfl)
    unfold getF at h; rw [if_neg hb] at h
    injection h with h h2; injection h2 with h2 h3; cases h3
theorem all_free {L : List Int} {r c : Int} (hv : validT L r c) (h : ∀ x ∈ L, x = -1) : r ≤ countF L r c (-1) ∧ ∀ x, heldF L r c x ≤ c := by
  have h1 := hv.1
  have h2 := hv.2.1
  have h3 := hv.2.2.1
  refine ⟨?_, fun x => ?_⟩
  · rw [count_yes hv, List.count_eq_length.2 (fun b hb => (h b hb).symm)]; omega
  · by_cases hx : 0 ≤ x
    · rw [held_cnt hv hx, List.count_eq_zero.2 (fun hm => by have := h x hm; omega)]; omega
    · rw [held_bad (.inr (by omega))]; omega
theorem get_put {L L1 L2 : List Int} {r c t k : Int} {u b : Bool} (h : getF L r c t u = (L1, k, true)) (h2 : putF L1 r c k = (L2, b)) : b = true ∧ L2 = L := by
  obtain ⟨i, hk, hi, h1, ht, hv, _⟩ := get_true h
  have hl := (List.getElem?_eq_some_iff.1 hi).1
  have hv1 : validT L1 r c := by rw [h1]; exact valid_set hv ⟨by omega, by omega⟩
  have hx : L1[k.toNat]? = some t := by rw [hk, h1]; simp [hl]
  have hl1 : L1.length = L.length := by rw [h1, List.length_set]
  rw [put_yes hv1 ⟨by omega, by omega⟩ hx (by omega)] at h2
  injection h2 with h3 h4
  refine ⟨h4.symm, ?_⟩
  rw [← h3, h1, hk, Int.toNat_natCast, List.set_set]
  exact set_eq hi
def hs (L : List Int) (r c : Int) : Nat → Int
  | 0 => countF L r c (-1)
  | i + 1 => hs L r c i + heldF L r c (i : Int)
theorem six : ∀ (L : List Int), (∀ x ∈ L, -1 ≤ x ∧ x ≤ 4) → L.count (-1) + L.count 0 + L.count 1 + L.count 2 + L.count 3 + L.count 4 = L.length := by
  intro L; induction L with
  | nil => intro _; rfl
  | cons z L ih =>
    intro h
    have h1 := ih (fun x hx => h x (List.mem_cons_of_mem _ hx))
    have h2 := h z (List.mem_cons_self)
    have h3 : z = -1 ∨ z = 0 ∨ z = 1 ∨ z = 2 ∨ z = 3 ∨ z = 4 := by omega
    rcases h3 with rfl | rfl | rfl | rfl | rfl | rfl <;> simp [List.count_cons] <;> omega
theorem hs_all {L : List Int} {r c : Int} (hv : validT L r c) : hs L r c 5 = (L.length : Int) := by
  have h := six L hv.2.2.2
  show countF L r c (-1) + heldF L r c 0 + heldF L r c 1 + heldF L r c 2 + heldF L r c 3 + heldF L r c 4 = _
  rw [count_yes hv, held_cnt hv (by omega), held_cnt hv (by omega), held_cnt hv (by omega), held_cnt hv (by omega), held_cnt hv (by omega)]; omega

end Go.Proofs.Ytaakkkknnihfmaa

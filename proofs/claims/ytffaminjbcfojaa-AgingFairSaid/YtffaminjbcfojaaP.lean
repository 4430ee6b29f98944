/- walks, printed by wip/gen -/
import Derived.Test.YtffaminjbcfojaaD
import Derived.Test.YtffaminjbcfojaaB
namespace Go.Proofs.Ytffaminjbcfojaa
open Go.RowKit
set_option linter.unusedVariables false
set_option linter.unusedSimpArgs false

/- aging: f0 File, f1 Since -/
def fok (x : E44) : Prop := (0 ≤ x.f0 ∧ x.f0 ≤ 7) ∧ (0 ≤ x.f1 ∧ x.f1 ≤ 1000000)
instance (x : E44) : Decidable (fok x) := by unfold fok; infer_instance
def lt2 (x y : E44) : Prop := x.f1 ≤ y.f1 ∧ x.f0 ≠ y.f0
instance (x y : E44) : Decidable (lt2 x y) := by unfold lt2; infer_instance
def okA (L : List E44) : Prop := (∀ x ∈ L, fok x) ∧ L.Pairwise lt2
instance (L : List E44) : Decidable (okA L) := by unfold okA; infer_instance
theorem take_snoc {α : Type} {L : List α} {k : Nat} {x : α} (hx : L[k]? = some x) : L.take (k + 1) = L.take k ++ [x] := by rw [List.take_add_one, hx]; rfl
theorem tk_all {α : Type} {p : α → Prop} {L : List α} {k : Nat} {x : α} (hx : L[k]? = some x) (h : ∀ y ∈ L.take k, p y) (hp : p x) : ∀ y ∈ L.take (k + 1), p y := by
  intro y hy; rw [take_snoc hx] at hy
  rcases List.mem_append.1 hy with hy | hy
  · exact h y hy
  · rw [List.mem_singleton.1 hy]; exact hp
theorem tk_mem {α : Type} {L : List α} {k : Nat} {x : α} (hx : L[k]? = some x) : x ∈ L.take (k + 1) := by rw [take_snoc hx]; simp
theorem tk_mem2 {α : Type} {L : List α} {k i : Nat} {x : α} (hx : L[k]? = some x) (h : k < i) : x ∈ L.take i := by
  have : (L.take i)[k]? = some x := by rw [List.getElem?_take, if_pos h]; exact hx
  exact List.mem_of_getElem? this
theorem okA_step {L : List E44} {k : Nat} {x : E44} (hx : L[k]? = some x) (h : okA (L.take k)) (hf : fok x) (hl : ∀ y ∈ L.take k, y.f1 ≤ x.f1 ∧ y.f0 ≠ x.f0) : okA (L.take (k + 1)) := by
  refine ⟨tk_all hx h.1 hf, ?_⟩
  rw [take_snoc hx, List.pairwise_append]
  exact ⟨h.2, by simp, fun a ha b hb => by rw [List.mem_singleton.1 hb]; exact hl a ha⟩
theorem okA_no1 {L : List E44} {k : Nat} {x : E44} (hx : L[k]? = some x) (h : ¬ fok x) : ¬ okA L := fun h2 => h (h2.1 x (List.mem_of_getElem? hx))
theorem okA_no2 {L : List E44} {k : Nat} {x y : E44} (hx : L[k]? = some x) (hy : y ∈ L.take k) (h : x.f1 < y.f1 ∨ y.f0 = x.f0) : ¬ okA L := by
  intro h2
  have h3 := h2.2
  rw [← List.take_append_drop k L, List.pairwise_append] at h3
  have h4 : x ∈ L.drop k := by
    have : (L.drop k)[0]? = some x := by rw [List.getElem?_drop]; exact hx
    exact List.mem_of_getElem? this
  have h5 := h3.2.2 y hy x h4
  unfold lt2 at h5
  rcases h with h | h
  · omega
  · exact h5.2 h
theorem idx_lt {L : List E44} {k : Nat} {x : E44} (hx : L[k]? = some x) (h : idxF (fun y : E44 => decide (y.f0 = x.f0)) L < (k : Int)) : ∃ y ∈ L.take k, y.f0 = x.f0 := by
  have h1 : L.findIdx (fun y : E44 => decide (y.f0 = x.f0)) < L.length := List.findIdx_lt_length_of_exists ⟨x, List.mem_of_getElem? hx, by simp⟩
  have h2 := List.findIdx_getElem (w := h1)
  rw [decide_eq_true_eq] at h2
  unfold idxF at h; rw [if_pos h1] at h
  exact ⟨_, tk_mem2 (List.getElem?_eq_getElem h1) (by omega), h2⟩
theorem idx_ge {L : List E44} {k : Nat} {n : Int} (h : (k : Int) ≤ idxF (fun y : E44 => decide (y.f0 = n)) L) : ∀ y ∈ L.take k, y.f0 ≠ n := by
  intro y hy hn
  obtain ⟨i, hi⟩ := List.getElem?_of_mem hy
  rw [List.getElem?_take] at hi
  split at hi
  · rename_i hik
    obtain ⟨h1, h2⟩ := List.getElem?_eq_some_iff.1 hi
    unfold idxF at h; split at h
    · have h3 := List.not_of_lt_findIdx (p := fun y : E44 => decide (y.f0 = n)) (xs := L) (i := i) (by omega)
      rw [h2] at h3; simp [hn] at h3
    · omega
  · cases hi
theorem okA_all {L : List E44} {k : Nat} (h : okA (L.take k)) (hk : L.length ≤ k) : okA L := by rwa [List.take_of_length_le hk] at h
theorem le_zero {L : List E44} {i : Nat} {n : Int} (h : i = 0) : ∀ y ∈ L.take i, y.f1 ≤ n := by subst h; intro y hy; simp at hy
theorem le_prev {L : List E44} {i : Nat} {z : E44} {n : Int} (hok : okA (L.take i)) (hi : 0 < i) (hz : L[i - 1]? = some z) (hn : z.f1 ≤ n) : ∀ y ∈ L.take i, y.f1 ≤ n := by
  obtain ⟨j, rfl⟩ : ∃ j, i = j + 1 := ⟨i - 1, by omega⟩
  have hz : L[j]? = some z := hz
  have h := hok.2
  rw [take_snoc hz, List.pairwise_append] at h
  refine tk_all hz (fun y hy => ?_) hn
  have := (h.2.2 y hy z (by simp)).1
  omega
def wrongA (L : List E44) (f : Int) : Int := if okA L then (if 0 ≤ f ∧ f ≤ 7 then 0 else 2) else 1
theorem wr_1 {L : List E44} {f : Int} (h : ¬ okA L) : wrongA L f = 1 := if_neg h
theorem wr_2 {L : List E44} {f : Int} (h : okA L) (hf : ¬ (0 ≤ f ∧ f ≤ 7)) : wrongA L f = 2 := by unfold wrongA; rw [if_pos h, if_neg hf]
theorem wr_0 {L : List E44} {f : Int} (h : okA L) (hf : 0 ≤ f ∧ f ≤ 7) : wrongA L f = 0 := by unfold wrongA; rw [if_pos h, if_pos hf]
theorem wr_ok {L : List E44} {f : Int} (h : wrongA L f = 0) : okA L ∧ 0 ≤ f ∧ f ≤ 7 := by
  unfold wrongA at h; split at h
  · rename_i h1; split at h
    · rename_i h2; exact ⟨h1, h2⟩
    · omega
  · omega
def inTime (L : List E44) (t : Int) : Prop := (0 ≤ t ∧ t ≤ 1000000) ∧ ∀ x, L[L.length - 1]? = some x → x.f1 ≤ t
instance (L : List E44) (t : Int) : Decidable (inTime L t) := by
  unfold inTime
  cases h : L[L.length - 1]? with
  | none => exact decidable_of_iff (0 ≤ t ∧ t ≤ 1000000) ⟨fun h1 => ⟨h1, fun x hx => by cases hx⟩, fun h1 => h1.1⟩
  | some y => exact decidable_of_iff ((0 ≤ t ∧ t ≤ 1000000) ∧ y.f1 ≤ t) ⟨fun h1 => ⟨h1.1, fun x hx => by cases hx; exact h1.2⟩, fun h1 => ⟨h1.1, h1.2 y rfl⟩⟩
def lateA (L : List E44) (f t : Int) : Int := if okA L then (if (0 ≤ f ∧ f ≤ 7) ∧ inTime L t then 0 else 2) else 1
theorem lt_1 {L : List E44} {f t : Int} (h : ¬ okA L) : lateA L f t = 1 := if_neg h
theorem lt_2 {L : List E44} {f t : Int} (h : okA L) (hf : ¬ (0 ≤ f ∧ f ≤ 7) ∨ ¬ (0 ≤ t ∧ t ≤ 1000000)) : lateA L f t = 2 := by
  unfold lateA; rw [if_pos h, if_neg (fun h2 => by rcases hf with hf | hf; exact hf h2.1; exact hf h2.2.1)]
theorem lt_2x {L : List E44} {f t : Int} {x : E44} (h : okA L) (hx : L[L.length - 1]? = some x) (ht : t < x.f1) : lateA L f t = 2 := by
  unfold lateA; rw [if_pos h, if_neg (fun h2 => by have := h2.2.2 x hx; omega)]
theorem lt_0 {L : List E44} {f t : Int} (h : okA L) (hf : 0 ≤ f ∧ f ≤ 7) (ht : 0 ≤ t ∧ t ≤ 1000000) (hx : L.length = 0) : lateA L f t = 0 := by
  unfold lateA; rw [if_pos h, if_pos ⟨hf, ht, fun x h3 => by rw [List.eq_nil_of_length_eq_zero hx] at h3; cases h3⟩]
theorem lt_0x {L : List E44} {f t : Int} {x : E44} (h : okA L) (hf : 0 ≤ f ∧ f ≤ 7) (ht : 0 ≤ t ∧ t ≤ 1000000) (hx : L[L.length - 1]? = some x) (hl : x.f1 ≤ t) : lateA L f t = 0 := by
  unfold lateA; rw [if_pos h, if_pos ⟨hf, ht, fun y h3 => by rw [hx] at h3; cases h3; exact hl⟩]
theorem okA_no3 {L : List E44} {k : Nat} {x : E44} (hx : L[k]? = some x) (h : idxF (fun y : E44 => decide (y.f0 = x.f0)) L < (k : Int)) : ¬ okA L := by
  obtain ⟨y, hy, he⟩ := idx_lt hx h
  exact okA_no2 hx hy (.inr he)
theorem okA_no4 {L : List E44} {k : Nat} {x : E44} {last : Int} (hx : L[k]? = some x) (hla : last = 0 ∨ ∃ y ∈ L.take k, y.f1 = last) (h0 : 0 ≤ x.f1) (h : x.f1 < last) : ¬ okA L := by
  rcases hla with h9 | ⟨y, hy, he⟩
  · omega
  · exact okA_no2 hx hy (.inl (by omega))
theorem lt_wr {L : List E44} {f t : Int} (h : ¬ wrongA L f = 0) : wrongA L f = lateA L f t := by
  unfold wrongA at *; unfold lateA
  split
  · rename_i h1; rw [if_pos h1] at h
    split
    · rename_i h2; rw [if_pos h2] at h; exact absurd rfl h
    · rename_i h2; rw [if_neg (fun h3 => h2 h3.1)]
  · rfl
theorem late_wr {L : List E44} {f t : Int} (h : lateA L f t = 0) : wrongA L f = 0 := by
  apply Decidable.byContradiction; intro h2; exact h2 ((lt_wr h2).trans h)
abbrev FA (f : Int) : E44 → Bool := fun x : E44 => decide (x.f0 = f)
theorem has_yes {L : List E44} {f : Int} (h : 0 ≤ idxF (fun x : E44 => decide (x.f0 = f)) L) : List.any L (fun x : E44 => decide (x.f0 = f)) = true := (cont_idx _ _).symm.trans (decide_eq_true h)
theorem has_no {L : List E44} {f : Int} (h : idxF (fun x : E44 => decide (x.f0 = f)) L < 0) : List.any L (fun x : E44 => decide (x.f0 = f)) = false := (cont_idx _ _).symm.trans (decide_eq_false (by omega))
theorem idx_nat {α : Type} {L : List α} {p : α → Bool} (h : 0 ≤ idxF p L) : ∃ i : Nat, idxF p L = (i : Int) ∧ i < L.length := by
  by_cases h1 : L.findIdx p < L.length
  · exact ⟨_, if_pos h1, h1⟩
  · unfold idxF at h; rw [if_neg h1] at h; omega
def remL (L : List E44) (f : Int) : List E44 := L.filter (fun x => !(decide (x.f0 = f)))
def addF (L : List E44) (f t : Int) : List E44 × Int := if lateA L f t = 0 then (if List.any L (fun x : E44 => decide (x.f0 = f)) = true then (L, 0) else (L ++ [⟨f, t⟩], 0)) else (L, lateA L f t)
theorem add_e {L : List E44} {f t : Int} (h : ¬ lateA L f t = 0) : addF L f t = (L, lateA L f t) := if_neg h
theorem add_has0 {L : List E44} {f t : Int} (h : lateA L f t = 0) (h2 : List.any L (fun x : E44 => decide (x.f0 = f)) = true) : addF L f t = (L, 0) := by unfold addF; rw [if_pos h, if_pos h2]
theorem add_has {L : List E44} {f t : Int} (h : lateA L f t = 0) (h2 : List.any L (fun x : E44 => decide (x.f0 = f)) = true) : addF L f t = (L, lateA L f t) := by rw [add_has0 h h2, h]
theorem add_new {L : List E44} {f t : Int} (h : lateA L f t = 0) (h2 : List.any L (fun x : E44 => decide (x.f0 = f)) = false) : addF L f t = (L ++ [⟨f, t⟩], 0) := by unfold addF; rw [if_pos h, if_neg (by rw [h2]; decide)]
def remF (L : List E44) (f : Int) : List E44 × Int := if wrongA L f = 0 then (if List.any L (fun x : E44 => decide (x.f0 = f)) = true then (remL L f, 0) else (L, 4)) else (L, wrongA L f)
theorem rem_e {L : List E44} {f : Int} (h : ¬ wrongA L f = 0) : remF L f = (L, wrongA L f) := if_neg h
theorem rem_no {L : List E44} {f : Int} (h : wrongA L f = 0) (h2 : List.any L (fun x : E44 => decide (x.f0 = f)) = false) : remF L f = (L, 4) := by unfold remF; rw [if_pos h, if_neg (by rw [h2]; decide)]
theorem rem_has {L : List E44} {f : Int} (h : wrongA L f = 0) (h2 : List.any L (fun x : E44 => decide (x.f0 = f)) = true) : remF L f = (remL L f, 0) := by unfold remF; rw [if_pos h, if_pos h2]
theorem filt_all {L : List E44} {f : Int} (h : ∀ y ∈ L, y.f0 ≠ f) : remL L f = L := List.filter_eq_self.2 (fun y hy => by simp [h y hy])
theorem rem_snoc {L : List E44} {f : Int} {k : Nat} {x : E44} (hx : L[k]? = some x) (h : ¬ x.f0 = f) : remL (L.take (k + 1)) f = remL (L.take k) f ++ [x] := by rw [take_snoc hx]; unfold remL; rw [List.filter_append]; simp [h]
theorem rem_skip {L : List E44} {f : Int} {k : Nat} {x : E44} (hx : L[k]? = some x) (h : x.f0 = f) : remL (L.take (k + 1)) f = remL (L.take k) f := by rw [take_snoc hx]; unfold remL; rw [List.filter_append]; simp [h]
theorem rem_yes {L : List E44} {f : Int} {i : Nat} (h : wrongA L f = 0) (hi : idxF (fun x : E44 => decide (x.f0 = f)) L = (i : Int)) (hl : i < L.length) : remF L f = (L.take i ++ L.drop (i + 1), 0) := by
  rw [rem_has h (has_yes (by omega))]
  have hok := (wr_ok h).1
  have h1 : ∀ y ∈ L.take i, y.f0 ≠ f := idx_ge (by omega)
  have hx : L[i]? = some L[i] := List.getElem?_eq_getElem hl
  have h2 : L[i].f0 = f := by
    have h3 : L.findIdx (fun x : E44 => decide (x.f0 = f)) < L.length := by
      unfold idxF at hi; split at hi
      · assumption
      · omega
    have h4 : L.findIdx (fun x : E44 => decide (x.f0 = f)) = i := by unfold idxF at hi; rw [if_pos h3] at hi; omega
    have h5 := List.findIdx_getElem (w := h3)
    rw [decide_eq_true_eq] at h5
    simpa [h4] using h5
  have hd : L.drop i = L[i] :: L.drop (i + 1) := List.drop_eq_getElem_cons hl
  have h3 : ∀ y ∈ L.drop (i + 1), y.f0 ≠ f := by
    have h4 := hok.2
    rw [← List.take_append_drop i L, List.pairwise_append, hd, List.pairwise_cons] at h4
    intro y hy he
    exact (h4.2.1.1 y hy).2 (by rw [h2, he])
  have e : remL L f = remL (L.take i) f ++ remL (L.drop (i + 1)) f := by
    conv => lhs; rw [← List.take_append_drop i L, hd]
    unfold remL; rw [List.filter_append, List.filter_cons]; simp [h2]
  rw [e, filt_all h1, filt_all h3]
theorem rem_len {L L1 : List E44} {f e : Int} (h : remF L f = (L1, e)) : L1.length ≤ L.length := by
  unfold remF at h; split at h
  · split at h
    · injection h with h; rw [← h]; exact List.length_filter_le _ _
    · injection h with h; rw [h]; exact Nat.le_refl _
  · injection h with h; rw [h]; exact Nat.le_refl _
theorem remL_len (L : List E44) (f : Int) : (remL L f).length ≤ L.length := List.length_filter_le _ _
def againF (L : List E44) (f t : Int) : List E44 × Int := if lateA L f t = 0 then (if List.any L (fun x : E44 => decide (x.f0 = f)) = true then (remL L f ++ [⟨f, t⟩], 0) else (L, 4)) else (L, lateA L f t)
theorem ag_e {L : List E44} {f t : Int} (h : ¬ lateA L f t = 0) : againF L f t = (L, lateA L f t) := if_neg h
theorem ag_no {L : List E44} {f t : Int} (h : lateA L f t = 0) (h2 : List.any L (fun x : E44 => decide (x.f0 = f)) = false) : againF L f t = (L, 4) := by unfold againF; rw [if_pos h, if_neg (by rw [h2]; decide)]
theorem ag_yes {L : List E44} {f t : Int} (h : lateA L f t = 0) (h2 : List.any L (fun x : E44 => decide (x.f0 = f)) = true) : againF L f t = (remL L f ++ [⟨f, t⟩], 0) := by unfold againF; rw [if_pos h, if_pos h2]
theorem ag_1 {L L1 : List E44} {f t e : Int} (h : lateA L f t = 0) (hr : remF L f = (L1, e)) (he : ¬ e = 0) : againF L f t = (L1, e) := by
  cases h2 : List.any L (fun x : E44 => decide (x.f0 = f)) with
  | true => rw [rem_has (late_wr h) h2] at hr; injection hr with h3 h4; exact absurd h4.symm he
  | false => rw [ag_no h h2, ← rem_no (late_wr h) h2]; exact hr
theorem ag_2 {L L1 : List E44} {f t e : Int} (h : lateA L f t = 0) (hr : remF L f = (L1, e)) (he : e = 0) : againF L f t = (L1 ++ [⟨f, t⟩], 0) := by
  cases h2 : List.any L (fun x : E44 => decide (x.f0 = f)) with
  | true => rw [rem_has (late_wr h) h2] at hr; injection hr with h3 h4; rw [ag_yes h h2, h3]
  | false => rw [rem_no (late_wr h) h2] at hr; injection hr with h3 h4; omega
theorem add_len {L L1 : List E44} {f t e : Int} (h : addF L f t = (L1, e)) : L1.length ≤ L.length + 1 := by
  unfold addF at h; split at h
  · split at h
    · injection h with h; rw [h]; omega
    · injection h with h; rw [← h]; simp
  · injection h with h; rw [h]; omega
theorem ag_len {L L1 : List E44} {f t e : Int} (h : againF L f t = (L1, e)) : L1.length ≤ L.length + 1 := by
  unfold againF at h; split at h
  · split at h
    · injection h with h; rw [← h]; have := remL_len L f; simp; omega
    · injection h with h; rw [h]; omega
  · injection h with h; rw [h]; omega
def expL (L : List E44) (n : Int) : List Int := (L.filter (fun x : E44 => decide (x.f1 ≤ n))).map (fun x : E44 => x.f0)
theorem exp_snoc {L : List E44} {n : Int} {k : Nat} {x : E44} (hx : L[k]? = some x) (h : x.f1 ≤ n) : expL (L.take (k + 1)) n = expL (L.take k) n ++ [x.f0] := by rw [take_snoc hx]; unfold expL; rw [List.filter_append, List.map_append]; simp [h]
theorem exp_skip {L : List E44} {n : Int} {k : Nat} {x : E44} (hx : L[k]? = some x) (h : ¬ x.f1 ≤ n) : expL (L.take (k + 1)) n = expL (L.take k) n := by rw [take_snoc hx]; unfold expL; rw [List.filter_append]; simp [h]
theorem exp_len (L : List E44) (n : Int) : (expL L n).length ≤ L.length := by unfold expL; rw [List.length_map]; exact List.length_filter_le _ _
theorem exp_brk {L : List E44} {n : Int} {k : Nat} {x : E44} (hok : okA L) (hx : L[k]? = some x) (h : n < x.f1) : expL L n = expL (L.take k) n := by
  have hk := (List.getElem?_eq_some_iff.1 hx).1
  have hd : L.drop k = x :: L.drop (k + 1) := by rw [List.drop_eq_getElem_cons hk, (List.getElem?_eq_some_iff.1 hx).2]
  have h4 := hok.2
  rw [← List.take_append_drop k L, List.pairwise_append, hd, List.pairwise_cons] at h4
  have h5 : expL (L.drop k) n = [] := by
    unfold expL
    rw [List.filter_eq_nil_iff.2, List.map_nil]
    intro y hy
    rw [hd] at hy
    rcases List.mem_cons.1 hy with rfl | hy
    · simp; omega
    · have := (h4.2.1.1 y hy).1
      simp; omega
  conv => lhs; rw [← List.take_append_drop k L]
  unfold expL at *; rw [List.filter_append, List.map_append, h5, List.append_nil]
def expF (L : List E44) (t u : Int) : List Int := if okA L ∧ (0 ≤ t ∧ t ≤ 1000000) ∧ (0 ≤ u ∧ u ≤ 1000000) then expL L (t - u) else []
theorem exp_ok {L : List E44} {t u : Int} (h : okA L) (ht : 0 ≤ t ∧ t ≤ 1000000) (hu : 0 ≤ u ∧ u ≤ 1000000) : expF L t u = expL L (t - u) := if_pos ⟨h, ht, hu⟩
theorem exp_no {L : List E44} {t u : Int} (h : ¬ okA L ∨ ¬ (0 ≤ t ∧ t ≤ 1000000) ∨ ¬ (0 ≤ u ∧ u ≤ 1000000)) : expF L t u = [] := if_neg (fun h2 => by
  rcases h with h | h | h
  · exact h h2.1
  · exact h h2.2.1
  · exact h h2.2.2)
def oldF (L : List E44) : Int × Bool := if okA L then (match L[0]? with | some x => (x.f0, true) | none => (0, false)) else (0, false)
theorem old_bad {L : List E44} (h : ¬ okA L) : oldF L = (0, false) := if_neg h
theorem old_nil {L : List E44} (h : L.length = 0) : oldF L = (0, false) := by
  have := List.eq_nil_of_length_eq_zero h; subst this; unfold oldF; split <;> rfl
theorem old_yes {L : List E44} {x : E44} (h : okA L) (hx : L[0]? = some x) : oldF L = (x.f0, true) := by unfold oldF; rw [if_pos h, hx]

end Go.Proofs.Ytffaminjbcfojaa

/- walks, printed by wip/gen -/
import Derived.Test.YtiifpgkdgnoafaaD
namespace Go.Proofs.Ytiifpgkdgnoafaa
open Go.RowKit
set_option linter.unusedVariables false
set_option linter.unusedSimpArgs false

instance : DecidableEq E36 := fun x y => if h : x.f0 = y.f0 ∧ x.f1 = y.f1 ∧ x.f2 = y.f2 then .isTrue (by cases x; cases y; simp_all) else .isFalse (by rintro rfl; exact h ⟨rfl, rfl, rfl⟩)
theorem E36_ext {x y : E36} (h : x.f0 = y.f0 ∧ x.f1 = y.f1 ∧ x.f2 = y.f2) : x = y := by cases x; cases y; simp_all
theorem takeG_eq {a b : List E36} {k : Nat} {x y : E36} (ha : a[k]? = some x) (hb : b[k]? = some y) (hxy : x.f0 = y.f0 ∧ x.f1 = y.f1 ∧ x.f2 = y.f2) (h : a.take k = b.take k) : a.take (k+1) = b.take (k+1) := by
  have := E36_ext hxy; subst this; rw [List.take_add_one, List.take_add_one, h, ha, hb]
def okG (x : E36) : Prop := 1 ≤ x.f0 ∧ x.f0 ≤ 64 ∧ 0 ≤ x.f1 ∧ x.f1 ≤ x.f0 ∧ 0 ≤ x.f2 ∧ x.f2 ≤ 64
instance (x : E36) : Decidable (okG x) := by unfold okG; infer_instance
def chkG (L : List E36) : Bool := decide ((∀ e ∈ L, okG e) ∧ 1 ≤ L.length ∧ L.length ≤ 4) && true
theorem all_step {α : Type} {P : α → Prop} {L : List α} {k : Nat} {x : α} (h : ∀ e ∈ L.take k, P e) (hx : L[k]? = some x) (hp : P x) : ∀ e ∈ L.take (k + 1), P e := by
  intro e he
  rw [List.take_add_one, hx] at he
  simp at he
  rcases he with he | rfl
  · exact h e he
  · exact hp
theorem chkG_no {L : List E36} {x : E36} {k : Nat} (hx : L[k]? = some x) (h : ¬ okG x) : false = chkG L := by
  symm; unfold chkG; rw [Bool.and_true, decide_eq_false_iff_not]
  rintro ⟨h1, _⟩
  exact h (h1 x (List.mem_of_getElem? hx))
theorem chkG_all {L : List E36} {b : Bool} (h : ∀ e ∈ L, okG e) (hb : b = decide (1 ≤ L.length ∧ L.length ≤ 4)) : b = chkG L := by
  subst hb; unfold chkG
  rw [Bool.and_true, decide_eq_decide]
  exact ⟨fun h2 => ⟨h, h2⟩, fun h2 => h2.2⟩
def zG : E36 := ⟨0, 0, 0⟩
def atG (L : List E36) (t : Int) : E36 := (L[t.toNat]?).getD zG
theorem atG_get {L : List E36} {t : Int} {x : E36} (h : L[t.toNat]? = some x) : atG L t = x := by unfold atG; rw [h]; rfl
def inG (L : List E36) (t n : Int) : Bool := decide (0 ≤ t ∧ t < L.length ∧ 0 ≤ n ∧ n ≤ 64) && true
def wrongF (L : List E36) (t n : Int) : Int := bif chkG L then (bif inG L t n then 0 else 2) else 1
theorem wrong_1 {L : List E36} {t n : Int} (h : chkG L = false) : 1 = wrongF L t n := by simp [wrongF, h]
theorem wrong_2 {L : List E36} {t n : Int} (h : chkG L = true) (h2 : ¬ (0 ≤ t ∧ t < L.length ∧ 0 ≤ n ∧ n ≤ 64)) : 2 = wrongF L t n := by
  have : inG L t n = false := by unfold inG; rw [Bool.and_true]; exact decide_eq_false h2
  simp [wrongF, h, this]
theorem wrong_0 {L : List E36} {t n : Int} (h : chkG L = true) (h2 : 0 ≤ t ∧ t < L.length ∧ 0 ≤ n ∧ n ≤ 64) : 0 = wrongF L t n := by
  have : inG L t n = true := by unfold inG; rw [Bool.and_true]; exact decide_eq_true h2
  simp [wrongF, h, this]
theorem wrong_inv {L : List E36} {t n : Int} (h : wrongF L t n = 0) : (∀ e ∈ L, okG e) ∧ 1 ≤ L.length ∧ L.length ≤ 4 ∧ 0 ≤ t ∧ t < L.length ∧ 0 ≤ n ∧ n ≤ 64 := by
  unfold wrongF at h
  cases hc : chkG L with
  | false => rw [hc] at h; simp at h
  | true =>
    rw [hc] at h
    cases hi : inG L t n with
    | false => rw [hi] at h; simp at h
    | true =>
      unfold chkG at hc; rw [Bool.and_true, decide_eq_true_eq] at hc
      unfold inG at hi; rw [Bool.and_true, decide_eq_true_eq] at hi
      exact ⟨hc.1, hc.2.1, hc.2.2, hi.1, hi.2.1, hi.2.2.1, hi.2.2.2⟩
def chF (L : List E36) (t n : Int) : List E36 × Int :=
  if wrongF L t n = 0 then (if (atG L t).f0 - (atG L t).f2 < n then (L, 3) else (L.set t.toNat ⟨(atG L t).f0, (atG L t).f1, (atG L t).f2 + n⟩, 0)) else (L, wrongF L t n)
def unF (L : List E36) (t n : Int) : List E36 × Int :=
  if wrongF L t n = 0 then (if (atG L t).f2 < n then (L, 4) else (L.set t.toNat ⟨(atG L t).f0, (atG L t).f1, (atG L t).f2 - n⟩, 0)) else (L, wrongF L t n)
def exF (x : E36) : Int := if x.f2 ≤ x.f1 then 0 else x.f2 - x.f1
def ovF (L : List E36) (t n : Int) : Int := if wrongF L t n = 0 then max (n - ((atG L t).f0 - (atG L t).f2)) 0 else 0

end Go.Proofs.Ytiifpgkdgnoafaa

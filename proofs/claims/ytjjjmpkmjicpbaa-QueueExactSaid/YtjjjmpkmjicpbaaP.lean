/- walks, printed by wip/gen -/
import Derived.Test.YtjjjmpkmjicpbaaD
import Derived.Test.YtjjjmpkmjicpbaaB
namespace Go.Proofs.Ytjjjmpkmjicpbaa
open Go.RowKit
set_option linter.unusedVariables false
set_option linter.unusedSimpArgs false

/- queues: costs, pushes and what the other functions give, in plain terms -/
def costF (b e m h k s c : Int) : Int :=
  if ((1 ≤ b ∧ b ≤ 1000) ∧ (0 ≤ e ∧ e ≤ 1000) ∧ (0 ≤ m ∧ m ≤ 1000)) ∧ (0 ≤ h ∧ h ≤ 128) ∧ (0 ≤ s ∧ s ≤ 128) ∧ (0 ≤ c ∧ c ≤ 128) then
    (if k = 3 then b else if k = 1 ∨ k = 2 then b + e * c + m * max (s - h) (h - s) else 0) else 0
theorem cost_bad {b e m h k s c : Int} (hn : ¬ (((1 ≤ b ∧ b ≤ 1000) ∧ (0 ≤ e ∧ e ≤ 1000) ∧ (0 ≤ m ∧ m ≤ 1000)) ∧ (0 ≤ h ∧ h ≤ 128) ∧ (0 ≤ s ∧ s ≤ 128) ∧ (0 ≤ c ∧ c ≤ 128))) : costF b e m h k s c = 0 := if_neg hn
theorem cost_3 {b e m h k s c : Int} (hn : ((1 ≤ b ∧ b ≤ 1000) ∧ (0 ≤ e ∧ e ≤ 1000) ∧ (0 ≤ m ∧ m ≤ 1000)) ∧ (0 ≤ h ∧ h ≤ 128) ∧ (0 ≤ s ∧ s ≤ 128) ∧ (0 ≤ c ∧ c ≤ 128)) (hk : k = 3) : costF b e m h k s c = b := by
  unfold costF; rw [if_pos hn, if_pos hk]
theorem cost_rw {b e m h k s c : Int} (hn : ((1 ≤ b ∧ b ≤ 1000) ∧ (0 ≤ e ∧ e ≤ 1000) ∧ (0 ≤ m ∧ m ≤ 1000)) ∧ (0 ≤ h ∧ h ≤ 128) ∧ (0 ≤ s ∧ s ≤ 128) ∧ (0 ≤ c ∧ c ≤ 128)) (hk : k = 1 ∨ k = 2) : costF b e m h k s c = b + e * c + m * max (s - h) (h - s) := by
  unfold costF; rw [if_pos hn, if_neg (by omega), if_pos hk]
theorem cost_no {b e m h k s c : Int} (h1 : ¬ k = 1) (h2 : ¬ k = 2) (h3 : ¬ k = 3) : costF b e m h k s c = 0 := by
  unfold costF; rw [if_neg h3, if_neg (show ¬ (k = 1 ∨ k = 2) by omega)]; split <;> rfl
theorem mul_in {a b : Int} (A B : Int) (h1 : 0 ≤ a) (h2 : a ≤ A) (h3 : 0 ≤ b) (h4 : b ≤ B) : 0 ≤ a * b ∧ a * b ≤ A * B :=
  ⟨Int.mul_nonneg h1 h3, Int.mul_le_mul h2 h4 h3 (by omega)⟩
theorem cost_in (b e m h k s c : Int) : 0 ≤ costF b e m h k s c ∧ costF b e m h k s c ≤ 257000 ∧
    (costF b e m h k s c = 0 ↔ ¬ ((((1 ≤ b ∧ b ≤ 1000) ∧ (0 ≤ e ∧ e ≤ 1000) ∧ (0 ≤ m ∧ m ≤ 1000)) ∧ (0 ≤ h ∧ h ≤ 128) ∧ (0 ≤ s ∧ s ≤ 128) ∧ (0 ≤ c ∧ c ≤ 128)) ∧ (k = 1 ∨ k = 2 ∨ k = 3))) := by
  by_cases hn : ((1 ≤ b ∧ b ≤ 1000) ∧ (0 ≤ e ∧ e ≤ 1000) ∧ (0 ≤ m ∧ m ≤ 1000)) ∧ (0 ≤ h ∧ h ≤ 128) ∧ (0 ≤ s ∧ s ≤ 128) ∧ (0 ≤ c ∧ c ≤ 128)
  · by_cases h3 : k = 3
    · rw [cost_3 hn h3]; refine ⟨by omega, by omega, ?_⟩; constructor <;> intro _ <;> omega
    · by_cases h12 : k = 1 ∨ k = 2
      · rw [cost_rw hn h12]
        have h5 := mul_in (a := e) (b := c) 1000 128 (by omega) (by omega) (by omega) (by omega)
        have h6 := mul_in (a := m) (b := max (s - h) (h - s)) 1000 128 (by omega) (by omega) (by omega) (by omega)
        refine ⟨by omega, by omega, ?_⟩; constructor <;> intro _ <;> omega
      · rw [cost_no (by omega) (by omega) h3]; refine ⟨by omega, by omega, ?_⟩; constructor <;> intro _ <;> omega
  · rw [cost_bad hn]; refine ⟨by omega, by omega, ?_⟩; constructor <;> intro _ <;> omega
structure Qu where
  d : Int
  h : Int
  f : Int
  L : List E39
deriving DecidableEq
def okP (b e m h f now k s c dl : Int) : Prop := (((1 ≤ b ∧ b ≤ 1000) ∧ (0 ≤ e ∧ e ≤ 1000) ∧ (0 ≤ m ∧ m ≤ 1000)) ∧ (0 ≤ h ∧ h ≤ 128) ∧ (0 ≤ s ∧ s ≤ 128) ∧ (0 ≤ c ∧ c ≤ 128)) ∧ (k = 1 ∨ k = 2 ∨ k = 3) ∧ (0 ≤ now ∧ now ≤ 1000000) ∧ (0 ≤ f ∧ f ≤ 1099511627776) ∧ (0 ≤ dl ∧ dl ≤ 1000000)
instance (b e m h f now k s c dl : Int) : Decidable (okP b e m h f now k s c dl) := by unfold okP; infer_instance
def ended (c : E39) (bg en : Int) : E39 := ⟨c.f0, c.f1, c.f2, c.f3, c.f4, c.f5, bg, en, c.f8, c.f9, c.f10, c.f11⟩
def pushF (q : Qu) (b e m now : Int) (c : E39) : Qu × Int :=
  if ¬ okP b e m q.h q.f now c.f1 c.f2 c.f3 c.f11 then (⟨0, 0, 0, []⟩, 1)
  else if q.L.any (fun x => decide (x.f0 = c.f0)) then (⟨0, 0, 0, []⟩, 5)
  else if min q.d 8 ≤ (q.L.length : Int) then (⟨0, 0, 0, []⟩, 3)
  else if c.f8 = 11 then (⟨q.d, q.h, q.f, q.L ++ [ended c (max now q.f) (-1)]⟩, 0)
  else (⟨q.d, if c.f1 = 3 then q.h else min (c.f2 + c.f3) 128, max now q.f + costF b e m q.h c.f1 c.f2 c.f3 + c.f11,
    q.L ++ [ended c (max now q.f) (max now q.f + costF b e m q.h c.f1 c.f2 c.f3 + c.f11)]⟩, 0)
section
variable {q : Qu} {b e m now : Int} {c : E39}
theorem push_1 (h : ¬ okP b e m q.h q.f now c.f1 c.f2 c.f3 c.f11) : pushF q b e m now c = (⟨0, 0, 0, []⟩, 1) := if_pos h
theorem push_5 (h : okP b e m q.h q.f now c.f1 c.f2 c.f3 c.f11) (h2 : q.L.any (fun x => decide (x.f0 = c.f0)) = true) : pushF q b e m now c = (⟨0, 0, 0, []⟩, 5) := by
  unfold pushF; rw [if_neg (not_not_intro h), if_pos h2]
theorem push_3 (h : okP b e m q.h q.f now c.f1 c.f2 c.f3 c.f11) (h2 : q.L.any (fun x => decide (x.f0 = c.f0)) = false) (h3 : min q.d 8 ≤ (q.L.length : Int)) : pushF q b e m now c = (⟨0, 0, 0, []⟩, 3) := by
  unfold pushF; rw [if_neg (not_not_intro h), if_neg (by rw [h2]; simp), if_pos h3]
theorem push_hang (h : okP b e m q.h q.f now c.f1 c.f2 c.f3 c.f11) (h2 : q.L.any (fun x => decide (x.f0 = c.f0)) = false) (h3 : ¬ min q.d 8 ≤ (q.L.length : Int)) (h4 : c.f8 = 11) :
    pushF q b e m now c = (⟨q.d, q.h, q.f, q.L ++ [ended c (max now q.f) (-1)]⟩, 0) := by
  unfold pushF; rw [if_neg (not_not_intro h), if_neg (by rw [h2]; simp), if_neg h3, if_pos h4]
theorem push_fl (h : okP b e m q.h q.f now c.f1 c.f2 c.f3 c.f11) (h2 : q.L.any (fun x => decide (x.f0 = c.f0)) = false) (h3 : ¬ min q.d 8 ≤ (q.L.length : Int)) (h4 : ¬ c.f8 = 11) (h5 : c.f1 = 3) :
    pushF q b e m now c = (⟨q.d, q.h, max now q.f + costF b e m q.h c.f1 c.f2 c.f3 + c.f11, q.L ++ [ended c (max now q.f) (max now q.f + costF b e m q.h c.f1 c.f2 c.f3 + c.f11)]⟩, 0) := by
  unfold pushF; rw [if_neg (not_not_intro h), if_neg (by rw [h2]; simp), if_neg h3, if_neg h4, if_pos h5]
theorem push_rw (h : okP b e m q.h q.f now c.f1 c.f2 c.f3 c.f11) (h2 : q.L.any (fun x => decide (x.f0 = c.f0)) = false) (h3 : ¬ min q.d 8 ≤ (q.L.length : Int)) (h4 : ¬ c.f8 = 11) (h5 : ¬ c.f1 = 3) :
    pushF q b e m now c = (⟨q.d, min (c.f2 + c.f3) 128, max now q.f + costF b e m q.h c.f1 c.f2 c.f3 + c.f11, q.L ++ [ended c (max now q.f) (max now q.f + costF b e m q.h c.f1 c.f2 c.f3 + c.f11)]⟩, 0) := by
  unfold pushF; rw [if_neg (not_not_intro h), if_neg (by rw [h2]; simp), if_neg h3, if_neg h4, if_neg h5]
end
/-- what has ended by now, and what has not -/
def dueB (now : Int) (c : E39) : Bool := decide (0 ≤ c.f7 ∧ c.f7 ≤ now)
def restF (L : List E39) (now : Int) : List E39 := L.filter (fun c => !dueB now c)
def doneF (L : List E39) (now : Int) : List E39 := L.filter (dueB now)
theorem filter_step {α : Type} {p : α → Bool} {L : List α} {k : Nat} {x : α} (hx : L[k]? = some x) : (L.take (k + 1)).filter p = (L.take k).filter p ++ (if p x then [x] else []) := by
  rw [List.take_add_one, hx, List.filter_append]
  congr 1
  simp [List.filter_cons]
theorem due_yes {L : List E39} {now : Int} {k : Nat} {x : E39} (hx : L[k]? = some x) (h : 0 ≤ x.f7 ∧ x.f7 ≤ now) : doneF (L.take (k + 1)) now = doneF (L.take k) now ++ [x] ∧ restF (L.take (k + 1)) now = restF (L.take k) now := by
  have e : dueB now x = true := decide_eq_true h
  unfold doneF restF; rw [filter_step hx, filter_step hx, e]; simp
theorem due_no {L : List E39} {now : Int} {k : Nat} {x : E39} (hx : L[k]? = some x) (h : ¬ (0 ≤ x.f7 ∧ x.f7 ≤ now)) : doneF (L.take (k + 1)) now = doneF (L.take k) now ∧ restF (L.take (k + 1)) now = restF (L.take k) now ++ [x] := by
  have e : dueB now x = false := decide_eq_false h
  unfold doneF restF; rw [filter_step hx, filter_step hx, e]; simp
/-- the next end -/
def nextF : List E39 → Int → Bool → Int × Bool
  | [], l, f => (l, f)
  | c :: r, l, f => if c.f7 ≠ -1 ∧ (f = false ∨ c.f7 < l) then nextF r c.f7 true else nextF r l f
theorem next_app (A B : List E39) (l : Int) (f : Bool) : nextF (A ++ B) l f = nextF B (nextF A l f).1 (nextF A l f).2 := by
  induction A generalizing l f with
  | nil => rfl
  | cons c r ih => simp only [List.cons_append, nextF]; split <;> exact ih _ _
theorem next_yes {L : List E39} {k : Nat} {x : E39} {l : Int} {f : Bool} (hx : L[k]? = some x) (hn : nextF (L.take k) 0 false = (l, f)) (h : x.f7 ≠ -1 ∧ (f = false ∨ x.f7 < l)) : nextF (L.take (k + 1)) 0 false = (x.f7, true) := by
  rw [List.take_add_one, hx, next_app, hn]
  show nextF [x] l f = _
  unfold nextF; rw [if_pos h]; rfl
theorem next_no {L : List E39} {k : Nat} {x : E39} {l : Int} {f : Bool} (hx : L[k]? = some x) (hn : nextF (L.take k) 0 false = (l, f)) (h : ¬ (x.f7 ≠ -1 ∧ (f = false ∨ x.f7 < l))) : nextF (L.take (k + 1)) 0 false = (l, f) := by
  rw [List.take_add_one, hx, next_app, hn]
  show nextF [x] l f = _
  unfold nextF; rw [if_neg h]; rfl
/-- taking one command away -/
def zeroE : E39 := ⟨0, 0, 0, 0, ⟨#[]⟩, false, 0, 0, 0, 0, false, 0⟩
def takeF (L : List E39) (id : Int) : List E39 × E39 × Bool :=
  let i := idxF (fun x : E39 => decide (x.f0 = id)) L
  if i < 0 then (L, zeroE, false) else (L.take i.toNat ++ L.drop (i.toNat + 1), (L[i.toNat]?).getD zeroE, true)
theorem take_no {L : List E39} {id : Int} (h : idxF (fun x : E39 => decide (x.f0 = id)) L < 0) : takeF L id = (L, zeroE, false) := if_pos h
theorem take_yes {L : List E39} {id : Int} {k : Nat} {x : E39} (h : idxF (fun x : E39 => decide (x.f0 = id)) L = (k : Int)) (hx : L[k]? = some x) : takeF L id = (L.take k ++ L.drop (k + 1), x, true) := by
  show (if idxF (fun x : E39 => decide (x.f0 = id)) L < 0 then _ else _) = _
  rw [h, if_neg (by omega), Int.toNat_natCast, hx]; rfl

end Go.Proofs.Ytjjjmpkmjicpbaa

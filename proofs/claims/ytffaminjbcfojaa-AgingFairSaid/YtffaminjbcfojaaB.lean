/- Function values with captured variables; functions that take a predicate; shifts; more results. -/
import Derived.Test.YtffaminjbcfojaaA2
import Derived.Laws.Slices
import Derived.Laws.Strings2
namespace Go.Proofs.Ytffaminjbcfojaa
open Go.RowKit
set_option linter.unusedVariables false
section
variable {P : Program} {S : World → Prop} {n : Nat} {a : Act} {σ : List (Nat × Value)} {o : Oper} {Q : Exit → Act → World → Prop} {K : Act → World → Prop} {w w0 : World} {H : List Chunk}
theorem yl_makeFunc (hF : Fr n a σ) {f : FuncId} {xs : List Operand} {vs : List Value} (ho : o.op = .makeFunc (.func f) #[] xs.toArray) (hx : xs.map (opv σ) = vs.map some) : Yl P S a o (.func (.func f) #[] vs.toArray) := fun w _ => by
  have e : (xs.toArray.map a.eval) = vs.toArray := by rw [List.map_toArray, map_eval hF hx]
  simp only [execOp, ho, Instr.makeFunc]
  rw [e]
  simp
theorem wp_callC (hF : Fr n a σ) {d : Nat} (hd : o.dst = some d) (hn : Nat.blt d n = true) {f : FuncId} {c : Operand} {xs : List Operand} {ts : Array TypeId} {vs caps : List Value} (ho : o.op = .call { callee := .value c, args := xs.toArray, argTypes := ts })
    (hx : xs.map (opv σ) = vs.map some) (hc0 : opv σ c = some (.func (.func f) #[] caps.toArray)) (hcf : ∀ (args : Array Value) (w : World), (callFunc f args).run P w = .ok (.enter f args) w) {Φ : Value → World → Prop} (hc : Fn P f (vs ++ caps).toArray w Φ)
    (h : ∀ v w', Φ v w' → ∀ a', Fr n a' ((d, v) :: σ) → K a' w') : o.wp P a w K Q := by
  have hr : (execOp a.eval o).run P w = .ok (.enter f (vs ++ caps).toArray) w := by
    simp [execOp, ho, resolve, invoke, Deferred.ofValue, hF.val hc0, map_eval hF hx, hcf]
  unfold Oper.wp
  rw [hr]
  refine Calls.mono hc fun e w' he => ?_
  obtain ⟨v, rfl, hp⟩ := he
  exact h v w' hp _ (hF.put' hd hn v)
end
/-- what a predicate's function value gives at every element, over the memory H -/
def PredOn {α : Type} (P : Program) (w0 : World) (H : List Chunk) (k : FuncId) (caps : List Value) (arg : α → Value) (p : α → Bool) : Prop :=
  ∀ (x : α) (w : World), Sat w0 w H → Fn P k (arg x :: caps).toArray w (fun v w' => v = .bool (p x) ∧ Sat w0 w' H)
def idxF {α : Type} (p : α → Bool) (L : List α) : Int := if L.findIdx p < L.length then ((L.findIdx p : Nat) : Int) else -1
theorem any_hit {α : Type} {p : α → Bool} {L : List α} {k : Nat} {x : α} (hx : L[k]? = some x) (h : p x = true) : true = L.any p := by
  symm; rw [List.any_eq_true]; exact ⟨x, List.mem_of_getElem? hx, h⟩
theorem any_none {α : Type} {p : α → Bool} {L : List α} {k : Nat} (h : ∀ x ∈ L.take k, p x = false) (hk : L.length ≤ k) : false = L.any p := by
  symm; rw [List.any_eq_false]; rw [List.take_of_length_le hk] at h; intro x hx; rw [h x hx]; simp
theorem idx_hit {α : Type} {p : α → Bool} {L : List α} {k : Nat} {x : α} (hx : L[k]? = some x) (h : p x = true) (hb : ∀ x ∈ L.take k, p x = false) : (k : Int) = idxF p L := by
  have hk := (List.getElem?_eq_some_iff.1 hx).1
  have e : L.findIdx p = k := by
    rw [List.findIdx_eq hk]
    have h1 := (List.getElem?_eq_some_iff.1 hx).2
    refine ⟨by rw [h1]; exact h, fun j hj => ?_⟩
    have := hb L[j] (List.mem_take_iff_getElem.2 ⟨j, by omega, rfl⟩)
    simpa using this
  unfold idxF; rw [e, if_pos hk]
theorem idx_none {α : Type} {p : α → Bool} {L : List α} {k : Nat} (h : ∀ x ∈ L.take k, p x = false) (hk : L.length ≤ k) : (-1 : Int) = idxF p L := by
  rw [List.take_of_length_le hk] at h
  have : L.findIdx p = L.length := List.findIdx_eq_length.2 (fun x hx => by rw [h x hx])
  unfold idxF; rw [this, if_neg (by omega)]
theorem all_not_step {α : Type} {p : α → Bool} {L : List α} {k : Nat} {x : α} (hx : L[k]? = some x) (h : p x = false) (hb : ∀ x ∈ L.take k, p x = false) : ∀ x ∈ L.take (k + 1), p x = false := by
  intro e he
  rw [List.take_add_one, hx] at he
  simp at he
  rcases he with he | rfl
  · exact hb e he
  · exact h
theorem idxF_cases {α : Type} (p : α → Bool) (L : List α) : (∃ (k : Nat) (x : α), idxF p L = (k : Int) ∧ L[k]? = some x ∧ p x = true ∧ ∀ y ∈ L.take k, p y = false) ∨ (idxF p L = -1 ∧ ∀ y ∈ L, p y = false) := by
  unfold idxF
  by_cases h : L.findIdx p < L.length
  · rw [if_pos h]
    refine .inl ⟨L.findIdx p, L[L.findIdx p], rfl, by simp, List.findIdx_getElem, fun y hy => ?_⟩
    obtain ⟨j, hj, rfl⟩ := List.mem_take_iff_getElem.1 hy
    have := List.not_of_lt_findIdx (p := p) (xs := L) (i := j) (by omega)
    simpa using this
  · rw [if_neg h]
    refine .inr ⟨rfl, fun y hy => ?_⟩
    have : L.findIdx p = L.length := by have := List.findIdx_le_length (p := p) (xs := L); omega
    have := List.findIdx_eq_length.1 this y hy
    simpa using this
section
variable {P : Program} {t : TypeId} {x : Int} {w : World}
theorem run_shr {kd : IntKind} {c : Nat} {d : Int} (hc : c < 64) (hd : ((2 ^ c : Nat) : Int) = d) : (binOp .shr t (.int .i64 x) (.int kd (c : Int))).run P w = .ok (.int .i64 (x / d)) w := by
  subst hd
  have h : ¬ ((c : Int) < 0) := by omega
  have e : min c 64 = c := by omega
  have : (binOp .shr t (.int .i64 x) (.int kd (c : Int))).run P w = (Op.shift .shr .i64 x kd (c : Int)).run P w := by first | rfl | simp [binOp]
  rw [this]
  unfold Op.shift
  rw [if_neg h]
  simp only [Int.toNat_natCast, IntKind.bits, e]
  rw [Int.fdiv_eq_ediv_of_nonneg _ (by exact_mod_cast Nat.zero_le (2 ^ c))]
  simp
end
theorem dec_t {p : Prop} [Decidable p] (h : p) : true = decide p := (decide_eq_true h).symm
theorem dec_f {p : Prop} [Decidable p] (h : ¬ p) : false = decide p := (decide_eq_false h).symm
theorem ndec_t {p : Prop} [Decidable p] (h : ¬ p) : true = !decide p := by rw [decide_eq_false h]; rfl
theorem ndec_f {p : Prop} [Decidable p] (h : p) : false = !decide p := by rw [decide_eq_true h]; rfl
theorem dec_d {p q : Prop} [Decidable p] [Decidable q] (h : p ↔ q) : decide p = decide q := decide_eq_decide.2 h
end Go.Proofs.Ytffaminjbcfojaa
namespace Go.Proofs.Ytffaminjbcfojaa
open Go.RowKit
/-! ### == of structs -/
section
variable {P : Program} {w : World} {d : Nat} {xs ys : Array Value}
theorem eqf_nil : (Op.eqFields d xs ys []).run P w = .ok true w := rfl
theorem eqf_cons {f : Field} {fs : List Field} {a b : Value} {p q : Bool} (hn : f.name ≠ "_") (ha : (part f.type xs f.offset).run P w = .ok a w) (hb : (part f.type ys f.offset).run P w = .ok b w)
    (hr : (Op.equalIn d f.type a b).run P w = .ok p w) (ht : (Op.eqFields d xs ys fs).run P w = .ok q w) : (Op.eqFields d xs ys (f :: fs)).run P w = .ok (p && q) w := by
  unfold Op.eqFields
  rw [if_pos hn]
  simp only [Sem.run_bind, ha, hb, hr, Result.andThen_ok]
  cases p with
  | true => simpa using ht
  | false => simp
theorem part1 {t off : Nat} {cs : List Value} {v : Value} (ha : aggB P t = some false) (h : nth cs off = some v) : (part t cs.toArray off).run P w = .ok v w := by
  rw [nth_eq] at h
  simp [part, run_isAgg ha, h]
theorem partN {t off k : Nat} {cs l : List Value} (ha : aggB P t = some true) (hs : sizeB P t = some k) (h : (cs.drop off).take k = l) : (part t cs.toArray off).run P w = .ok (.agg l.toArray) w := by
  subst h
  simp [part, run_isAgg ha, run_sizeOf hs]
theorem eq_i {t : Nat} {k k' : IntKind} {a b : Int} (h : P.underlying t = some (.int k')) : (Op.equalIn (d + 1) t (.int k a) (.int k b)).run P w = .ok (decide (a = b)) w := by
  rw [run_equalIn_int _ _ _ _ _ _ _ h, beq_dec]
theorem eq_b {t : Nat} {a b : Bool} (h : P.underlying t = some .bool) : (Op.equalIn (d + 1) t (.bool a) (.bool b)).run P w = .ok (decide (a = b)) w := by
  rw [run_equalIn_bool' _ _ _ _ _ h]
  cases a <;> cases b <;> rfl
theorem eq_s {t : Nat} {a b : ByteArray} (h : P.underlying t = some .string) : (Op.equalIn (d + 1) t (.string a) (.string b)).run P w = .ok (decide (a = b)) w := by
  rw [run_equalIn_string _ _ _ _ _ h, str_beq]
end
end Go.Proofs.Ytffaminjbcfojaa
namespace Go.Proofs.Ytffaminjbcfojaa
theorem cont_idx {α : Type} (p : α → Bool) (L : List α) : decide (0 ≤ idxF p L) = L.any p := by
  rcases idxF_cases p L with ⟨k, x, h1, h2, h3, _⟩ | ⟨h1, h2⟩
  · rw [h1, ← any_hit h2 h3]; simp
  · rw [h1, ← any_none (k := L.length) (fun x hx => h2 x (List.mem_of_mem_take hx)) (Nat.le_refl _)]; rfl
theorem take_eq_step {α : Type} {a b : List α} {k : Nat} {x y : α} (ha : a[k]? = some x) (hb : b[k]? = some y) (hxy : x = y) (h : a.take k = b.take k) : a.take (k+1) = b.take (k+1) := by
  subst hxy; rw [List.take_add_one, List.take_add_one, h, ha, hb]
end Go.Proofs.Ytffaminjbcfojaa

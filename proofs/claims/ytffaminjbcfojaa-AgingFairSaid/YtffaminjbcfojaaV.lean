/- Calls that are given a pointer to a box of the caller: contracts that pass the whole memory through. -/
import Derived.Test.YtffaminjbcfojaaU
namespace Go.Proofs.Ytffaminjbcfojaa
open Go.RowKit
set_option linter.unusedVariables false
section
variable {P : Program}
theorem c_enterS {f : FuncId} {fn : Func} {c : Code} {l : List Value} {w : World} {R : Ending → World → Prop} {N : Nat} (hf : P.funcs[f]? = some fn) (hb : fn.body = some c)
    (hN : l.length + (fn.ntmps - l.length) = N) (h : ∀ a, Fr N a (argS 0 l) → c.wp P (bodyPost P fn R) a w) : Calls P f l.toArray w R := by
  refine calls_of_wp hf hb (h _ ⟨rfl, by simp [← hN], fun k v hk => ?_⟩)
  obtain ⟨_, h2⟩ := look_argS l 0 k v hk
  simp at h2
  have hlt := (List.getElem?_eq_some_iff.1 h2).1
  have h4 : (l.toArray ++ Array.replicate (fn.ntmps - l.toArray.size) undef)[k]? = some v := by
    rw [Array.getElem?_append_left (by simpa using hlt)]; simpa using h2
  obtain ⟨h5, h6⟩ := Array.getElem?_eq_some_iff.1 h4
  rw [Array.getD]
  rw [dif_pos h5]
  exact h6
end
theorem drop_filter {α : Type} : ∀ (X : List α) (m : Nat), X.drop m = (List.range' m (X.length - m)).filterMap (X[·]?)
  | X, m => by
    by_cases h : m < X.length
    · rw [List.drop_eq_getElem_cons h, show X.length - m = (X.length - (m + 1)) + 1 by omega, List.range'_succ, List.filterMap_cons, List.getElem?_eq_getElem h]
      simp only [List.cons.injEq, true_and]
      exact drop_filter X (m + 1)
    · rw [List.drop_eq_nil_of_le (by omega), show X.length - m = 0 by omega]; simp
  termination_by X m => X.length - m
/-- fewer chunks at the head, by their places; the rest stays -/
theorem Sat.subT {w0 w : World} {H H' : List Chunk} (h : Sat w0 w H) (m : Nat) (f : List Nat) (hf : f.Nodup) (hH : H' = f.filterMap (H[·]?) ++ H.drop m) (hall : ∀ i ∈ f, i < m) (hm : m ≤ H.length) : Sat w0 w H' := by
  refine h.sub (f ++ List.range' m (H.length - m)) ?_ ?_ ?_
  · refine List.nodup_append.2 ⟨hf, List.nodup_range', fun a ha b hb e => ?_⟩
    have h1 := hall a ha
    have h2 := (List.mem_range'_1.1 hb).1
    omega
  · rw [hH, List.filterMap_append, ← drop_filter]
  · intro i hi
    rcases List.mem_append.1 hi with hi | hi
    · have := hall i hi; omega
    · have := (List.mem_range'_1.1 hi).2; omega
section
variable {P : Program} {S : World → Prop} {n : Nat} {a : Act} {σ : List (Nat × Value)} {o : Oper}
theorem yl_nilCheck (hF : Fr n a σ) {x : Operand} {ad : Addr} (ho : o.op = .nilCheck x) (hx : opv σ x = some (.pointer (some ad))) : Yl P S a o (.pointer (some ad)) := fun w _ => by
  simp [execOp, ho, hF.val hx]
end
end Go.Proofs.Ytffaminjbcfojaa

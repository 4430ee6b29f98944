/- Arrays of numbers in boxes, in list form; calls of function values. -/
import Derived.Test.YtffaminjbcfojaaE
namespace Go.Proofs.Ytffaminjbcfojaa
open Go.RowKit
set_option linter.unusedVariables false
def arrB (P : Program) (t : TypeId) : Option (Nat × TypeId) := match P.underlying t with
  | some (.array n e) => some (n, e)
  | _ => none
theorem underlying_arrB {P : Program} {t : TypeId} {m e : Nat} (h : arrB P t = some (m, e)) : P.underlying t = some (.array m e) := by
  unfold arrB at h
  split at h
  · rename_i n e' hu; injection h with h; injection h with h1 h2; subst h1 h2; exact hu
  · cases h
theorem run_idxArr {P : Program} {t m e k g : Nat} {kd : IntKind} {w : World} (ha : arrB P t = some (m, e)) (hs : sizeB P e = some 1) (hk : k < m) : (Instr.indexAt t (.pointer (some ⟨g, 0, none⟩)) (.int kd ((k : Nat) : Int))).run P w = .ok (.pointer (some ⟨g, k, none⟩)) w := by
  have hu := underlying_arrB ha
  have he : P.elem t = e := by unfold Program.elem; rw [hu]
  have hm : P.arrayLen t = m := by unfold Program.arrayLen; rw [hu]
  rw [run_indexAt_array w t ⟨g, 0, none⟩ kd (k : Int) (by rw [he, hm]; exact hu), if_pos ⟨by omega, by rw [hm]; omega⟩, he, run_sizeOf hs]
  have : (⟨g, 0, none⟩ : Addr).add k = ⟨g, k, none⟩ := by unfold Addr.add; split <;> simp_all
  simp [this]
section
variable {P : Program} {n : Nat} {a : Act} {σ : List (Nat × Value)} {o : Oper} {Q : Exit → Act → World → Prop} {K : Act → World → Prop} {w w0 : World} {H : List Chunk} {S : World → Prop}
theorem cellsI_at {L : List Int} {k : Nat} {z : Int} (h : L[k]? = some z) : (cells encI L)[k]? = some (.int .i64 z) := by
  have := cells_at (enc := encI) encI_len L k z h 0 (by omega)
  simpa [encI] using this
theorem yl_loadArr (hS : ∀ w, S w → Sat w0 w H) (hF : Fr n a σ) {t : TypeId} {x : Operand} {g k T : Nat} {L : List Int} {z : Int} (ho : o.op = .load t x) (hx : opv σ x = some (.pointer (some ⟨g, k, none⟩))) (i : Nat) (hi : H[i]? = some (.box g T (cells encI L).toArray))
    (ha : aggB P t = some false) (hz : L[k]? = some z) : Yl P S a o (.int .i64 z) :=
  yl_loadAt hF ho hx ha fun w hw => by
    rw [(hS w hw).cell i hi k]
    simpa using cellsI_at hz
theorem cellsI_len (L : List Int) : (cells encI L).length = L.length := by rw [cells_length encI_len, Nat.mul_one]
theorem wp_storeArr (hF : Fr n a σ) (hS : Sat w0 w H) (hd : o.dst = none) {t : TypeId} {x y : Operand} {g k T : Nat} {L : List Int} {z z' : Int} (ho : o.op = .store t x y) (hx : opv σ x = some (.pointer (some ⟨g, k, none⟩))) (hy : opv σ y = some (.int .i64 z'))
    (i : Nat) (hi : H[i]? = some (.box g T (cells encI L).toArray)) (hs : sizeB P t = some 1) (hz : L[k]? = some z) (h : ∀ a' w', Fr n a' σ → Sat w0 w' (H.set i (.box g T (cells encI (L.set k z')).toArray)) → K a' w') : o.wp P a w K Q := by
  have hk := (List.getElem?_eq_some_iff.1 hz).1
  have hset := cells_set (enc := encI) encI_len L k z z' 0 [.int .i64 z'] hz (by simp) rfl
  refine wp_store (cs' := (cells encI (L.set k z')).toArray) hF hS hd ho hx hy i hi (by simpa [Value.cells] using hs) (by simp [Value.cells, Value.oneCell']) (by simp [Value.cells, cellsI_len]; omega) ?_ h
  rw [hset]
  simp [Value.cells]
theorem yl_binA (hF : Fr n a σ) {b : BinOp} {t t' : TypeId} {x y : Operand} {u v r : Value} (ho : o.op = .binOp b t x y t') (hx : opv σ x = some u) (hy : opv σ y = some v)
    (hg : ∀ w, (eqGuard b t x y u v).run P w = .ok () w) (hrun : ∀ w, (binOp b t u v).run P w = .ok r w) : Yl P S a o r := fun w _ => by
  simp [execOp, ho, hF.val hx, hF.val hy, hg, hrun]
theorem wp_callV (hF : Fr n a σ) {d : Nat} (hd : o.dst = some d) (hn : Nat.blt d n = true) {f : FuncId} {c : Operand} {xs : List Operand} {ts : Array TypeId} {vs : List Value} (ho : o.op = .call { callee := .value c, args := xs.toArray, argTypes := ts })
    (hx : xs.map (opv σ) = vs.map some) (hc0 : opv σ c = some (.func (.func f) #[] #[])) (hcf : ∀ (args : Array Value) (w : World), (callFunc f args).run P w = .ok (.enter f args) w) {Φ : Value → World → Prop} (hc : Fn P f vs.toArray w Φ)
    (h : ∀ v w', Φ v w' → ∀ a', Fr n a' ((d, v) :: σ) → K a' w') : o.wp P a w K Q := by
  have hr : (execOp a.eval o).run P w = .ok (.enter f vs.toArray) w := by
    simp [execOp, ho, resolve, invoke, Deferred.ofValue, hF.val hc0, map_eval hF hx, hcf]
  unfold Oper.wp
  rw [hr]
  refine Calls.mono hc fun e w' he => ?_
  obtain ⟨v, rfl, hp⟩ := he
  exact h v w' hp _ (hF.put' hd hn v)
end
end Go.Proofs.Ytffaminjbcfojaa

/- Stores into the elements of slices that are owned; slices that are made; more on the elements of lists. -/
import Derived.Test.YtffaminjbcfojaaT
import Derived.Laws.OwnMore
namespace Go.Proofs.Ytffaminjbcfojaa
open Go.RowKit
set_option linter.unusedVariables false

theorem cells_set {α : Type} {enc : α → List Value} {size : Nat} (he : ∀ x, (enc x).length = size) : ∀ (L : List α) (k : Nat) (x x' : α) (j : Nat) (us : List Value), L[k]? = some x → j + us.length ≤ size → enc x' = (enc x).take j ++ us ++ (enc x).drop (j + us.length) →
    cells enc (L.set k x') = (cells enc L).take (k * size + j) ++ us ++ (cells enc L).drop (k * size + j + us.length)
  | [], k, x, x', j, us, h, _, _ => by simp at h
  | y :: r, 0, x, x', j, us, h, hj, hx => by
    simp at h; subst h
    have e1 : cells enc (y :: r) = enc y ++ cells enc r := by simp [cells]
    have e2 : cells enc ((y :: r).set 0 x') = enc x' ++ cells enc r := by simp [cells]
    rw [e1, e2, hx, Nat.zero_mul, Nat.zero_add, List.take_append_of_le_length (by rw [he]; omega), List.drop_append_of_le_length (by rw [he]; omega)]
    simp
  | y :: r, k + 1, x, x', j, us, h, hj, hx => by
    have ih := cells_set he r k x x' j us (by simpa using h) hj hx
    have e1 : cells enc (y :: r) = enc y ++ cells enc r := by simp [cells]
    have e2 : cells enc ((y :: r).set (k + 1) x') = enc y ++ cells enc (r.set k x') := by simp [cells]
    have e3 : (k + 1) * size + j = (enc y).length + (k * size + j) := by rw [he, Nat.succ_mul]; omega
    rw [e1, e2, ih, e3, List.take_length_add_append, show (enc y).length + (k * size + j) + us.length = (enc y).length + (k * size + j + us.length) by omega, List.drop_length_add_append]
    simp

section
variable {P : Program} {n : Nat} {a : Act} {σ : List (Nat × Value)} {o : Oper} {Q : Exit → Act → World → Prop} {K : Act → World → Prop} {w w0 : World} {H : List Chunk}
/-- a store into an element of a slice that is owned: us from its j-th cell on -/
theorem wp_storeAt {α : Type} {enc : α → List Value} (hF : Fr n a σ) (hS : Sat w0 w H) (hd : o.dst = none) {t : TypeId} {x y : Operand} {ad : Addr} {c k j e size m : Nat} {L : List α} {z z' : α} {u : Value} (ho : o.op = .store t x y)
    (hx : opv σ x = some (.pointer (some ((ad.add (k * size)).add j)))) (hy : opv σ y = some u) (i : Nat) (hi : H[i]? = some (.row e size (.slice (some ad) m c) L.length (cells enc L))) (hs : sizeB P t = some u.cells.size) (h1 : ∀ v ∈ u.cells.toList, v.oneCell' = true)
    (he : ∀ x, (enc x).length = size) (hz : L[k]? = some z) (hj : j + u.cells.toList.length ≤ size) (hz' : enc z' = (enc z).take j ++ u.cells.toList ++ (enc z).drop (j + u.cells.toList.length))
    (h : ∀ a' w', Fr n a' σ → Sat w0 w' (H.set i (.row e size (.slice (some ad) m c) (L.set k z').length (cells enc (L.set k z')))) → K a' w') : o.wp P a w K Q := by
  obtain ⟨hl, hrow⟩ := hS.own i hi
  rcases hrow with ⟨hb, _⟩ | ⟨g, cap, cur, hv, hB, hg, hn, hm, hsz, ht⟩
  · cases hb
  · injection hv with h1' h2' h3'
    injection h1' with h1'
    subst h1' h2' h3'
    have hk := (List.getElem?_eq_some_iff.1 hz).1
    have hmul : (k + 1) * size ≤ L.length * size := Nat.mul_le_mul_right _ hk
    have hmul2 : L.length * size ≤ c * size := Nat.mul_le_mul_right _ hn
    rw [Nat.succ_mul] at hmul
    have hst := run_storeCells_at P g (k * size + j) e u.cells.toList 0 cur w hg (by omega) h1
    simp only [Nat.add_zero] at hst
    have haddr : ((⟨g, 0, none⟩ : Addr).add (k * size)).add j = ⟨g, k * size + j, none⟩ := by
      rw [add_of_add]; unfold Addr.add; split <;> simp_all
    rw [haddr] at hx
    have hr : (execOp a.eval o).run P w = .ok .skip (w.setRow g (cur.toList.take (k * size + j) ++ u.cells.toList ++ cur.toList.drop (k * size + j + u.cells.toList.length)).toArray) := by
      simp [execOp, ho, hF.val hx, hF.val hy, Instr.storeAt, Instr.sureAddr, storeVar, run_sizeOf hs]
      simp at hst
      rw [hst]
      rfl
    have hjj : u.cells.toList.length = u.cells.size := Array.length_toList
    unfold Oper.wp
    rw [hr]
    have hset := cells_set he L k z z' j u.cells.toList hz hj hz'
    refine h _ _ (hF.put0 hd _) ?_
    have hheap : ∀ m, m ≠ g → (w.setRow g (cur.toList.take (k * size + j) ++ u.cells.toList ++ cur.toList.drop (k * size + j + u.cells.toList.length)).toArray).heap[m]? = w.heap[m]? := fun m hm => by
      simp only [World.setRow, Array.getElem?_modify]
      rw [if_neg (fun e => hm e.symm)]
    have hlen : (cells enc (L.set k z')).length = (L.set k z').length * size := cells_length he _
    refine hS.upd i hi (row := some g) ⟨rfl, rfl, rfl, by simp [World.setRow], fun m _ hm => hheap m (fun e => hm (by rw [e]))⟩ (fun m hm => by injection hm with hm; subst hm; rfl) ?_ (fun m hm => .inl hm) rfl
    refine ⟨hlen, .inr ⟨g, c, _, by simp, hB, setRow_heap w g cur _ e (0, 0) hg, by simpa using hn, hm, ?_, ?_⟩⟩
    · simp only [List.size_toArray, List.length_append, List.length_take, List.length_drop, Array.length_toList]
      omega
    · rw [hset, ← ht]
      simp only [List.length_set]
      have hx1 : k * size + j + u.cells.toList.length ≤ L.length * size := by omega
      have hcl : cur.toList.length = c * size := by simpa using hsz
      rw [List.take_take, Nat.min_eq_left (by omega), List.drop_take]
      rw [List.take_append, List.take_of_length_le (by simp; omega)]
      congr 1
      congr 1
      simp
      omega
theorem wp_storeAt0 {α : Type} {enc : α → List Value} (hF : Fr n a σ) (hS : Sat w0 w H) (hd : o.dst = none) {t : TypeId} {x y : Operand} {ad : Addr} {c k e size m : Nat} {L : List α} {z z' : α} {u : Value} (ho : o.op = .store t x y)
    (hx : opv σ x = some (.pointer (some (ad.add (k * size))))) (hy : opv σ y = some u) (i : Nat) (hi : H[i]? = some (.row e size (.slice (some ad) m c) L.length (cells enc L))) (hs : sizeB P t = some u.cells.size) (h1 : ∀ v ∈ u.cells.toList, v.oneCell' = true)
    (he : ∀ x, (enc x).length = size) (hz : L[k]? = some z) (hj : u.cells.toList.length ≤ size) (hz' : enc z' = u.cells.toList ++ (enc z).drop u.cells.toList.length)
    (h : ∀ a' w', Fr n a' σ → Sat w0 w' (H.set i (.row e size (.slice (some ad) m c) (L.set k z').length (cells enc (L.set k z')))) → K a' w') : o.wp P a w K Q :=
  wp_storeAt (j := 0) hF hS hd ho (by rw [Addr.add_zero']; exact hx) hy i hi hs h1 he hz (by omega) (by simpa using hz') h
end
end Go.Proofs.Ytffaminjbcfojaa
namespace Go.Proofs.Ytffaminjbcfojaa
open Go.RowKit
section
variable {P : Program} {n : Nat} {a : Act} {σ : List (Nat × Value)} {o : Oper} {Q : Exit → Act → World → Prop} {K : Act → World → Prop} {w w0 : World} {H : List Chunk}
theorem wp_make {X : Int} {α : Type} {enc : α → List Value} (hF : Fr n a σ) (hS : Sat w0 w H) {d : Nat} (hd : o.dst = some d) (hn : Nat.blt d n = true) {t e : TypeId} {x y : Operand} {m size bytes : Nat} {z : Value} (ho : o.op = .makeSlice t x y)
    (hx : opv σ x = some (.int .i64 X)) (hy : opv σ y = some (.int .i64 X)) (hX : X = (m : Int)) (ht : sliceB P t = some e) (hinf : (P.info? e).map (fun i => (i.zero, i.size, i.bytes)) = some (some z, size, bytes)) (z0 : α)
    (hz : ∀ m, (madeCells z.cells (m * size)).toList = cells enc (List.replicate m z0)) (hm : m * size ≤ 16777216) (hb : bytes * m ≤ 281474976710656) (hm2 : m ≤ 1000000)
    (h : ∀ a' w' v', Fr n a' ((d, v') :: σ) → Sat w0 w' (.row e size v' (List.replicate m z0).length (cells enc (List.replicate m z0)) :: H) → K a' w') : o.wp P a w K Q := by
  subst hX
  have ht' := underlying_sliceB ht
  cases hi : P.info? e with
  | none => rw [hi] at hinf; cases hinf
  | some i =>
    rw [hi] at hinf
    simp at hinf
    obtain ⟨hi1, hi2, hi3⟩ := hinf
    obtain ⟨w', hr, how, hg⟩ := run_makeSlice_full (P := P) w w.heap.size t e i z size ht' hi hi1 hi2 .i64 .i64 m hm (by rw [hi3]; exact hb) (by simp [maxLen]; omega) (Nat.le_refl _)
    have hr' : (execOp a.eval o).run P w = .ok (.value (.slice (some ⟨w.heap.size, 0, none⟩) m m)) w' := by
      simp [execOp, ho, hF.val hx, hF.val hy, hr]
    unfold Oper.wp
    rw [hr']
    refine h _ _ _ (hF.put' hd hn _) (hS.addRow ((Below.refl _ _).grown hg (Nat.le_refl _) (fun k hk => by cases hk)) ?_)
    rw [← hz m, List.length_replicate]
    exact how
end
section
variable {P : Program} {S : World → Prop} {n : Nat} {a : Act} {σ : List (Nat × Value)} {o : Oper}
theorem yl_min2 (hF : Fr n a σ) {t s : TypeId} {x y : Operand} {k : IntKind} {u v : Int} (ho : o.op = .call { callee := .builtin .min, args := #[x, y], argTypes := #[t, s] }) (hx : opv σ x = some (.int k u)) (hy : opv σ y = some (.int k v)) : Yl P S a o (.int k (min u v)) := fun w _ => by
  simp [execOp, ho, resolve, invoke, builtin, hF.val hx, hF.val hy, run_min]
theorem yl_max2 (hF : Fr n a σ) {t s : TypeId} {x y : Operand} {k : IntKind} {u v : Int} (ho : o.op = .call { callee := .builtin .max, args := #[x, y], argTypes := #[t, s] }) (hx : opv σ x = some (.int k u)) (hy : opv σ y = some (.int k v)) : Yl P S a o (.int k (max u v)) := fun w _ => by
  simp [execOp, ho, resolve, invoke, builtin, hF.val hx, hF.val hy, run_max]
theorem run_quoN {t : TypeId} {x y : Int} {w : World} (hx : 0 ≤ x) (hy : 0 < y) (hm : x ≤ 9223372036854775807) : (binOp .quo t (.int .i64 x) (.int .i64 y)).run P w = .ok (.int .i64 (x / y)) w := by
  rw [run_quo (by omega), Int.tdiv_eq_ediv_of_nonneg hx, wrap_in ⟨?_, ?_⟩]
  · have := Int.ediv_nonneg hx (Int.le_of_lt hy); omega
  · have := Int.ediv_le_self y hx; omega
theorem run_remN {t : TypeId} {x y : Int} {w : World} (hx : 0 ≤ x) (hy : 0 < y) : (binOp .rem t (.int .i64 x) (.int .i64 y)).run P w = .ok (.int .i64 (x % y)) w := by
  rw [run_rem (by omega), Int.tmod_eq_emod_of_nonneg hx]
theorem mul_fit {a b : Int} (A B : Nat) (h1 : 0 ≤ a) (h2 : a ≤ A) (h3 : 0 ≤ b) (h4 : b ≤ B) (h5 : A * B ≤ 9223372036854775807) : i64 (a * b) := by
  have h6 := Int.mul_nonneg h1 h3
  have h7 : a * b ≤ (A : Int) * B := Int.mul_le_mul h2 h4 h3 (by omega)
  have h8 : ((A * B : Nat) : Int) = (A : Int) * B := by simp
  exact ⟨by omega, by omega⟩
end
theorem made_I (m : Nat) : (madeCells (Value.int .i64 0).cells (m * 1)).toList = cells encI (List.replicate m (0 : Int)) := by
  rw [show (Value.int .i64 0).cells = #[Value.int .i64 0] from rfl, toList_madeCells_one, Nat.mul_one]
  induction m with
  | zero => rfl
  | succ m ih => rw [List.replicate_succ, List.replicate_succ, ih]; simp [cells, encI]
end Go.Proofs.Ytffaminjbcfojaa

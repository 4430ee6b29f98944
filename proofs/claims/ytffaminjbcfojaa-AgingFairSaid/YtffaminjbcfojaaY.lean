/- copy into a slice that is owned; numbers without sign that are known. -/
import Derived.Test.YtffaminjbcfojaaX
import Derived.Scope
namespace Go.Proofs.Ytffaminjbcfojaa
open Go.RowKit
set_option linter.unusedVariables false
set_option linter.unusedSimpArgs false
theorem cells_take {α : Type} {enc : α → List Value} {size : Nat} (he : ∀ x, (enc x).length = size) (L : List α) (k : Nat) : (cells enc L).take (k * size) = cells enc (L.take k) := by
  by_cases hk : k ≤ L.length
  · have h2 : cells enc L = cells enc (L.take k) ++ cells enc (L.drop k) := by rw [← cells_append, List.take_append_drop]
    have h3 : (cells enc (L.take k)).length = k * size := by rw [cells_length he]; congr 1; simp; omega
    rw [h2, ← h3, List.take_left]
  · rw [List.take_of_length_le (l := L) (by omega), List.take_of_length_le]
    rw [cells_length he]; exact Nat.mul_le_mul_right _ (by omega)
theorem cells_drop {α : Type} {enc : α → List Value} {size : Nat} (he : ∀ x, (enc x).length = size) (L : List α) (k : Nat) : (cells enc L).drop (k * size) = cells enc (L.drop k) := by
  by_cases hk : k ≤ L.length
  · have h2 : cells enc L = cells enc (L.take k) ++ cells enc (L.drop k) := by rw [← cells_append, List.take_append_drop]
    have h3 : (cells enc (L.take k)).length = k * size := by rw [cells_length he]; congr 1; simp; omega
    rw [h2, ← h3, List.drop_left]
  · rw [show L.drop k = [] from List.drop_eq_nil_of_le (by omega), List.drop_eq_nil_of_le]
    · rfl
    · rw [cells_length he]; exact Nat.mul_le_mul_right _ (by omega)
section
variable {P : Program} {n : Nat} {a : Act} {σ : List (Nat × Value)} {o : Oper} {Q : Exit → Act → World → Prop} {K : Act → World → Prop} {w w0 : World} {H : List Chunk}
theorem wp_copyIn {α : Type} {enc : α → List Value} (lo : Nat) (hF : Fr n a σ) (hS : Sat w0 w H) {d : Nat} (hd : o.dst = some d) (hn : Nat.blt d n = true) {x y : Operand} {t t2 e : TypeId} {ad : Addr} {m c k c2 : Nat} {D u : Value} {L M : List α} {size : Nat}
    (ho : o.op = .call { callee := .builtin .copy, args := #[x, y], argTypes := #[t, t2] }) (hx : opv σ x = some D) (hy : opv σ y = some u) (hD : D = .slice (some (ad.add (lo * size))) k c2)
    (i : Nat) (hi : H[i]? = some (.row e size (.slice (some ad) m c) L.length (cells enc L))) (ht : sliceB P t = some e) (hsz : sizeB P e = some size)
    (hu : Rd w size u M.length (cells enc M)) (he : ∀ x, (enc x).length = size) (h1 : ∀ x, ∀ u ∈ enc x, u.oneCell' = true) (hlo : lo + k = L.length)
    (h : ∀ a' w', Fr n a' ((d, .int .i64 ((min M.length k : Nat) : Int)) :: σ) → Sat w0 w' (H.set i (.row e size (.slice (some ad) m c) (L.take lo ++ M.take (min M.length k) ++ L.drop (lo + min M.length k)).length (cells enc (L.take lo ++ M.take (min M.length k) ++ L.drop (lo + min M.length k))))) → K a' w') : o.wp P a w K Q := by
  subst hD
  obtain ⟨hl, hrow⟩ := hS.own i hi
  rcases hrow with ⟨hb, _⟩ | ⟨g, cap, cur, hv, hB, hg, hn', hm, hcs, htk⟩
  · cases hb
  · injection hv with h1' h2' h3'
    injection h1' with h1'
    subst h1' h2' h3'
    obtain ⟨A, cs2, rfl, hml, hmc, hc2, hA, hcell⟩ := hu
    obtain ⟨i0, hi0, hi1⟩ := Option.map_eq_some_iff.1 (show (P.info? e).map (·.size) = some size from hsz)
    generalize hq : min M.length k = q at h
    have hqM : q ≤ M.length := by omega
    have hqk : lo + q ≤ L.length := by omega
    have hMq : (M.take q).length = q := by simp; omega
    have hlq : (cells enc (M.take q)).length = q * size := by rw [cells_length he, hMq]
    have hcurl : cur.toList.length = c * size := by simpa using hcs
    have hb1 : (lo + q) * size ≤ L.length * size := Nat.mul_le_mul_right _ hqk
    have hb2 : L.length * size ≤ c * size := Nat.mul_le_mul_right _ hn'
    rw [Nat.add_mul] at hb1
    have hst := run_storeCells_at P g (lo * size) e (cells enc (M.take q)) 0 cur w hg (by rw [hlq]; omega) (cells_oneCell h1 _)
    simp only [Nat.add_zero] at hst
    have hfc : (Builtin.firstCells size q (.slice A M.length cs2)).run P w = .ok (cells enc (M.take q)).toArray w := by
      rcases Nat.eq_zero_or_pos M.length with h0 | h0
      · have hM : M = [] := List.eq_nil_of_length_eq_zero h0
        subst hM
        have : q = 0 := by simpa using hqM
        subst this
        cases A <;> simp [Builtin.firstCells, cells, loadCells, loadCellsFrom]
      · obtain ⟨ad, rfl, _, hc⟩ := hcell h0
        have h5 := run_loadCells_list (P := P) w ad (cells enc (M.take q)) (fun j v hj => hc j v (by
          rw [← cells_take he] at hj
          rw [List.getElem?_take] at hj
          split at hj
          · exact hj
          · cases hj))
        rw [hlq] at h5
        simpa [Builtin.firstCells] using h5
    have haddr : (⟨g, 0, none⟩ : Addr).add (lo * size) = ⟨g, lo * size, none⟩ := by unfold Addr.add; split <;> simp_all
    have hmin : M.length.min k = q := hq
    have hcp : (Builtin.copy_ #[t, t2] o.type #[.slice (some ((⟨g, 0, none⟩ : Addr).add (lo * size))) k c2, .slice A M.length cs2]).run P w = .ok (goInt q) (w.setRow g (cur.toList.take (lo * size) ++ cells enc (M.take q) ++ cur.toList.drop (lo * size + (cells enc (M.take q)).length)).toArray) := by
      simp [Builtin.copy_, run_underlying (underlying_sliceB ht), sizeOf, typeInfo, hi0, hi1, Builtin.lenOf, hmin, hfc, haddr, hst]
    have hr : (execOp a.eval o).run P w = .ok (.value (goInt q)) (w.setRow g (cur.toList.take (lo * size) ++ cells enc (M.take q) ++ cur.toList.drop (lo * size + (cells enc (M.take q)).length)).toArray) := by
      simp only [execOp, ho, resolve, invoke, builtin, Sem.run_bind, Sem.run_pure, Result.andThen_ok, List.map_toArray, List.map_cons, List.map_nil, hF.val hx, hF.val hy, hcp]
    have hnl : (L.take lo ++ M.take q ++ L.drop (lo + q)).length = L.length := by simp; omega
    unfold Oper.wp
    rw [hr]
    refine h _ _ (hF.put' hd hn _) (hS.upd i hi (row := some g) ⟨rfl, rfl, rfl, by simp [World.setRow], fun k _ hk => setRow_other w g k _ (fun e => hk (by rw [e]))⟩ (fun k hk => by injection hk with hk; subst hk; rfl)
      ⟨cells_length he _, .inr ⟨g, c, _, by rw [hnl], hB, setRow_heap w g cur _ e (0, 0) hg, by rw [hnl]; exact hn', hm, ?_, ?_⟩⟩ (fun k hk => .inl hk) rfl)
    · simp only [List.size_toArray, List.length_append, List.length_take, List.length_drop, hlq, hcurl]; omega
    · rw [hnl, cells_append, cells_append, ← cells_take he L lo, ← cells_drop he L (lo + q), ← htk]
      have e1 : (cur.toList.take (lo * size)).length = lo * size := by rw [List.length_take, hcurl]; omega
      rw [List.take_take, Nat.min_eq_left (by omega), List.append_assoc, List.append_assoc, List.take_append, e1, List.take_of_length_le (by rw [e1]; omega)]
      congr 1
      rw [List.take_append, hlq, List.take_of_length_le (by rw [hlq]; omega)]
      congr 1
      rw [List.drop_take, Nat.add_mul]
      congr 1
      omega
end
theorem c_scope {P : Program} {Q : Exit → Act → World → Prop} {a : Act} {w : World} {c : Code} (h : c.wp P (Exit.noGoto Q) a w) : (Code.scope c).wp P Q a w := wp_scope_straight h
theorem sc_n {Q : Exit → Act → World → Prop} {a : Act} {w : World} (h : Q .normal a w) : Exit.noGoto Q .normal a w := h
theorem sc_r {Q : Exit → Act → World → Prop} {a : Act} {w : World} (h : Q .ret a w) : Exit.noGoto Q .ret a w := h
theorem sc_x {Q : Exit → Act → World → Prop} {a : Act} {w : World} {i : Nat} (h : Q (.exit i) a w) : Exit.noGoto Q (.exit i) a w := h
end Go.Proofs.Ytffaminjbcfojaa

/- strings.Builder: what its functions' operations do; its String, out of the kit's contract. -/
import Derived.Test.YtlhcpeolkkadbaaG
import Derived.Lib.Builder
import Derived.Lib.AppendStr
import Derived.Laws.Externs
import Derived.Shelf.Strings.Builder1
namespace Go.Proofs.Ytlhcpeolkkadbaa
open Go.RowKit
set_option linter.unusedVariables false
def byteL (s : ByteArray) : List Int := (bl s).map fun b => (b.toNat : Int)
theorem byteL_len (s : ByteArray) : (byteL s).length = s.size := by unfold byteL; rw [List.length_map, bl_len]
theorem byteL_app (a b : ByteArray) : byteL a ++ byteL b = byteL (a ++ b) := by unfold byteL; rw [bl_app, List.map_append]
theorem byteL_nil : byteL ⟨#[]⟩ = [] := rfl
theorem cells_byteL (s : ByteArray) : cells encU (byteL s) = Lib.strCells s := by
  rw [cellsU_map]; unfold byteL Lib.strCells bl; rw [List.map_map]; rfl
section
variable {P : Program} {n : Nat} {a : Act} {σ : List (Nat × Value)} {o : Oper} {Q : Exit → Act → World → Prop} {K : Act → World → Prop} {w w0 : World} {H : List Chunk} {S : World → Prop}
/-- append of a string's bytes -/
theorem wp_appS (hF : Fr n a σ) (hS : Sat w0 w H) {d : Nat} (hd : o.dst = some d) (hn : Nat.blt d n = true) {x y : Operand} {t u e : TypeId} {v : Value} {s : ByteArray} {L : List Int}
    (ho : o.op = .call { callee := .builtin .append, args := #[x, y], argTypes := #[t, u] }) (hx : opv σ x = some v) (hy : opv σ y = some (.string s))
    (i : Nat) (hi : H[i]? = some (.row e 1 v L.length (cells encU L))) (ht : sliceB P t = some e) (hu : P.underlying u = some .string) (hinf : (P.info? e).map (fun i => (i.zero, i.size, i.bytes)) = some (some (.int .u8 0), 1, 1)) (hb : L.length + s.size ≤ 1000000)
    (h : ∀ a' w' v', Fr n a' ((d, v') :: σ) → Sat w0 w' (H.set i (.row e 1 v' (L ++ byteL s).length (cells encU (L ++ byteL s)))) → K a' w') : o.wp P a w K Q := by
  obtain ⟨i0, hi0, hz0, hz1, hz2⟩ := info_parts hinf
  have hown := hS.own i hi
  obtain ⟨v', w', hrun, h2, h3, h5⟩ := Lib.run_append_own_string (P := P) w w0.heap.size t u o.type e i0 (underlying_sliceB ht) hu hi0 hz0 hz1 hz2 v L.length (cells encU L) hown s (by simp only [maxLen]; omega) (by omega) hS.size
  have h4 : v'.ownBlock = v.ownBlock ∨ v'.ownBlock = none ∨ ∃ g, v'.ownBlock = some g ∧ w.heap.size ≤ g := by
    rcases hown.2 with ⟨rfl, h0⟩ | ⟨g, cap, cur, rfl, hbg, hg, hnc, hcm, hcs, htake⟩
    · have hL : cells encU L = [] := List.eq_nil_of_length_eq_zero (by rw [cells_length encU_len]; omega)
      obtain ⟨v2, w2, hrun2, h22, _, _⟩ := Lib.run_append_own_string (P := P) w w.heap.size t u o.type e i0 (underlying_sliceB ht) hu hi0 hz0 hz1 hz2 (.slice none 0 0) L.length (cells encU L) ⟨by rw [cells_length encU_len], .inl ⟨rfl, h0⟩⟩ s (by simp only [maxLen]; omega) (by omega) (Nat.le_refl _)
      rw [hrun] at hrun2; injection hrun2 with e1 e2; subst e1 e2
      rcases h22.2 with ⟨rfl, _⟩ | ⟨g, cap, cur, rfl, hbg, _⟩
      · exact .inr (.inl rfl)
      · exact .inr (.inr ⟨g, rfl, hbg⟩)
    · by_cases hroom : L.length + s.size ≤ cap
      · have hr := Lib.run_append_room_string (P := P) w t u o.type e i0 (underlying_sliceB ht) hu hi0 hz1 g L.length cap cur hg s hroom (by omega)
        rw [hrun] at hr; injection hr with e1 e2; subst e1
        exact .inl rfl
      · have holds : ∀ j u, (cells encU L)[j]? = some u → w.cell? ((⟨g, 0, none⟩ : Addr).add j) = some u := hown.cells (g := g) rfl
        have hr := Lib.run_append_grow_string (P := P) w t u o.type e i0 (.int .u8 0) (underlying_sliceB ht) hu hi0 hz0 ⟨g, 0, none⟩ L.length cap (cells encU L) (by rw [hz1, cells_length encU_len]) holds s (by omega) (by omega) (by rw [hz2]; exact growslice_fits (by omega) (by omega))
        rw [hrun] at hr; injection hr with e1 e2; subst e1
        exact .inr (.inr ⟨_, rfl, Nat.le_refl _⟩)
  have hr : (execOp a.eval o).run P w = .ok (.value v') w' := by
    simp only [execOp, ho, resolve, invoke, builtin, Sem.run_bind, Sem.run_pure, Result.andThen_ok, List.map_toArray, List.map_cons, List.map_nil, hF.val hx, hF.val hy, hrun]
  unfold Oper.wp
  rw [hr]
  have e2 : w'.ownsRow w0.heap.size e 1 v' (L ++ byteL s).length (cells encU (L ++ byteL s)) := by
    rw [cells_append, cells_byteL, List.length_append, byteL_len]; exact h2
  refine h _ _ _ (hF.put' hd hn _) (hS.upd i hi h3 (fun g hg => hg) e2 (fun g hg => ?_) rfl)
  have hg' : v'.ownBlock = some g := hg
  rcases h4 with h4 | h4 | ⟨g', h4, h6⟩
  · exact .inl (by show v.ownBlock = _; rw [← h4]; exact hg')
  · rw [h4] at hg'; cases hg'
  · rw [h4] at hg'; injection hg' with hg'; subst hg'; exact .inr h6
def posB (P : Program) (t : TypeId) : Bool := match P.info? t with
  | some j => decide (j.size ≠ 0)
  | none => false
theorem posB_of {t : TypeId} (h : posB P t = true) : ∃ j, P.info? t = some j ∧ j.size ≠ 0 := by
  unfold posB at h
  split at h
  · rename_i j hj; exact ⟨j, hj, by simpa using h⟩
  · cases h
theorem run_neqp_same {t u : TypeId} {ad : Addr} (hp : P.underlying t = some (.pointer u)) (hu : posB P u = true) : (binOp .neq t (.pointer (some ad)) (.pointer (some ad))).run P w = .ok (.bool false) w := by
  obtain ⟨j, hj, _⟩ := posB_of hu
  exact Lib.run_neq_ptr_same w ad hp hj
theorem run_eqp_nn {t u : TypeId} (hp : P.underlying t = some (.pointer u)) (hu : posB P u = true) : (binOp .eql t (.pointer none) (.pointer none)).run P w = .ok (.bool true) w := by
  obtain ⟨j, hj, _⟩ := posB_of hu
  have h : ∀ d : Nat, (Op.equalIn (d + 1) t (.pointer none) (.pointer none)).run P w = .ok true w := fun d => by
    simp [Op.equalIn, run_underlying hp, sizeOf, typeInfo]
  simp only [binOp]
  simp [Op.equal, Op.maxDepth, h 9999]
theorem run_eqp_sn {t u : TypeId} {ad : Addr} (hp : P.underlying t = some (.pointer u)) (hu : posB P u = true) : (binOp .eql t (.pointer (some ad)) (.pointer none)).run P w = .ok (.bool false) w := by
  obtain ⟨j, hj, _⟩ := posB_of hu
  have h : ∀ d : Nat, (Op.equalIn (d + 1) t (.pointer (some ad)) (.pointer none)).run P w = .ok false w := fun d => by
    simp [Op.equalIn, run_underlying hp, sizeOf, typeInfo]
  simp only [binOp]
  simp [Op.equal, Op.maxDepth, h 9999]
theorem shape_of (hS : Sat w0 w H) (i : Nat) {g T : Nat} {cs : Array Value} (hi : H[i]? = some (.box g T cs)) : w.shape? g = some (T, cs.size) := by
  simp [World.shape?, hS.boxAt i hi]
theorem yl_toUnsafe (hS : ∀ w, S w → Sat w0 w H) (hF : Fr n a σ) {s d t : TypeId} {x : Operand} {g T : Nat} {cs : Array Value} (ho : o.op = .convert s d x) (hx : opv σ x = some (.pointer (some ⟨g, 0, none⟩))) (i : Nat) (hi : H[i]? = some (.box g T cs)) (h0 : Nat.blt 0 cs.size = true)
    (hs : P.underlying s = some (.pointer t)) (hd : P.underlying d = some .unsafePointer) (ht : posB P t = true) : Yl P S a o (.pointer (some ⟨g, 0, none⟩)) := fun w hw => by
  obtain ⟨j, hj, hne⟩ := posB_of ht
  have := Lib.run_to_unsafe (P := P) w ⟨g, 0, none⟩ hs hd hj hne (shape_of (hS w hw) i hi) (by simpa using h0)
  simp [execOp, ho, hF.val hx, this]
theorem yl_fromUnsafe (hS : ∀ w, S w → Sat w0 w H) (hF : Fr n a σ) {s d u : TypeId} {x : Operand} {g T : Nat} {cs : Array Value} (ho : o.op = .convert s d x) (hx : opv σ x = some (.pointer (some ⟨g, 0, none⟩))) (i : Nat) (hi : H[i]? = some (.box g T cs))
    (hs : P.underlying s = some .unsafePointer) (hd : P.underlying d = some (.pointer u)) (ht : posB P u = true) (hl : liesAt P P.depth T (cs.size / P.cellsOf T) 0 u 1 = true) : Yl P S a o (.pointer (some ⟨g, 0, none⟩)) := fun w hw => by
  obtain ⟨j, hj, hne⟩ := posB_of ht
  have := Lib.run_from_unsafe (P := P) w ⟨g, 0, none⟩ hs hd hj (shape_of (hS w hw) i hi) hl
  simp [execOp, ho, hF.val hx, this]
theorem yl_extern (hF : Fr n a σ) {f : FuncId} {xs : List Operand} {ts : Array TypeId} {vs : List Value} {r : Value} (ho : o.op = .call { callee := .value (.func f), args := xs.toArray, argTypes := ts }) (hx : xs.map (opv σ) = vs.map some) (hcf : ∀ w : World, (callFunc f vs.toArray).run P w = .ok (.value r) w) : Yl P S a o r := fun w _ => by
  simp [execOp, ho, resolve, invoke, Deferred.ofValue, Act.eval, map_eval hF hx, hcf]
theorem run_noEsc {f : FuncId} {fn : Func} (hf : P.funcs[f]? = some fn) (hname : (fn.name == "runtime.NumGoroutine") = false) (hb : fn.body.isNone = true) (hn : Extern.findNext fn = none) (he : Extern.find fn = some Extern.AbiNoEscape.same) (v : Value) (w : World) : (callFunc f #[v]).run P w = .ok (.value v) w := by
  rw [run_callFunc_extern hf hname hb hn he, Lib.run_noEscape]; rfl
end
section
variable {P : Program} {T e : TypeId} {f : FuncId} {w0 w : World} {Hb : List Chunk}
theorem bld_string (hW : ∀ (B b : Nat) (l : List UInt8) (w : World), Lib.IsBuilder T e B b (Lib.byteCells l) w → B ≤ w.heap.size →
      Calls P f #[.pointer (some ⟨b, 0, none⟩)] w fun r w' => r = .returned (.string ⟨l.toArray⟩) ∧ Below B w w')
    {b : Nat} {p v : Value} {acc : ByteArray} (hS : Sat w0 w (.box b T #[p, v] :: .row e 1 v (byteL acc).length (cells encU (byteL acc)) :: Hb)) (hp : p = .pointer none ∨ p = .pointer (some ⟨b, 0, none⟩)) :
    Fn P f #[.pointer (some ⟨b, 0, none⟩)] w (fun r w' => r = .string acc ∧ Sat w0 w' []) := by
  have e1 : Lib.byteCells (bl acc) = cells encU (byteL acc) := by rw [cells_byteL]; rfl
  have hb : Lib.BuilderAt T e w0.heap.size b p (Lib.byteCells (bl acc)) w := by
    refine ⟨(hS.holds 0 _ rfl).2, v, (hS.holds 0 _ rfl).1, ?_, hS.nodup 0 1 _ _ rfl rfl (by decide) b rfl⟩
    have h1 := hS.own 1 rfl
    rw [e1, cells_length encU_len, Nat.mul_one]; exact h1
  have hB : Lib.IsBuilder T e w0.heap.size b (Lib.byteCells (bl acc)) w := by
    rcases hp with rfl | rfl
    · exact .inl hb
    · exact .inr hb
  refine Calls.mono (hW w0.heap.size b _ w hB hS.size) fun r w' hr => ?_
  obtain ⟨rfl, hbel⟩ := hr
  refine ⟨_, rfl, ?_, hS.below.trans hbel, fun i c h => by simp at h, fun i j c d h => by simp at h, fun i j c d h => by simp at h⟩
  congr 1
end
end Go.Proofs.Ytlhcpeolkkadbaa

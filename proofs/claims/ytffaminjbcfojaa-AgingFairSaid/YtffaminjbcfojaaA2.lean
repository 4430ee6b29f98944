/- A slice of an array in a box. -/
import Derived.Test.YtffaminjbcfojaaA1
import Derived.Laws.Slices
namespace Go.Proofs.Ytffaminjbcfojaa
open Go.RowKit
set_option linter.unusedVariables false
section
variable {P : Program} {S : World → Prop} {n : Nat} {a : Act} {σ : List (Nat × Value)} {o : Oper}
theorem yl_sliceArrH (hF : Fr n a σ) {t : TypeId} {x y : Operand} {g m e k : Nat} (ho : o.op = .slice t x none (some y) none) (hx : opv σ x = some (.pointer (some ⟨g, 0, none⟩))) (hy : opv σ y = some (.int .i64 ((k : Nat) : Int)))
    (ha : arrB P t = some (m, e)) (hs : sizeB P e = some 1) (hk : k ≤ m) : Yl P S a o (.slice (some ⟨g, 0, none⟩) k m) := fun w _ => by
  have hu := underlying_arrB ha
  have he : P.elem t = e := by unfold Program.elem; rw [hu]
  have hm : P.arrayLen t = m := by unfold Program.arrayLen; rw [hu]
  have hr := run_sliceAt_array_h (P := P) w t ⟨g, 0, none⟩ (by rw [he, hm]; exact hu) .i64 (k : Int) (by omega) (by rw [hm]; omega)
  rw [he, hm, run_sizeOf hs] at hr
  simp [slicedAt, Addr.add_zero'] at hr
  simp [execOp, ho, hF.val hx, hF.val hy, hr]
end
theorem rd_box {w0 w : World} {H : List Chunk} (h : Sat w0 w H) (i : Nat) {g T : Nat} {cs : Array Value} (hi : H[i]? = some (.box g T cs)) (L : List Int) (hcs : cs.toList = cells encI L) {k m : Nat} (hk : k ≤ L.length) (hm : L.length = m) (hm2 : m ≤ 1000000) :
    Rd w 1 (.slice (some ⟨g, 0, none⟩) k m) (L.take k).length (cells encI (L.take k)) := by
  have hl : (L.take k).length = k := by simp; omega
  refine ⟨_, m, by rw [hl], by rw [cellsI_len, Nat.mul_one], by rw [hl]; omega, by simp [maxLen]; omega, (fun h => by cases h), fun h0 => ⟨_, rfl, (Array.getElem?_eq_some_iff.1 (h.boxAt i hi)).1, fun j u hu => ?_⟩⟩
  rw [Addr.add_lit, Nat.zero_add, h.cell i hi j]
  have h1 : (cells encI (L.take k))[j]? = some u := hu
  have h2 : cells encI L = cells encI (L.take k) ++ cells encI (L.drop k) := by rw [← cells_append, List.take_append_drop]
  have h3 : cs[j]? = (cells encI L)[j]? := by rw [← hcs]; simp
  rw [h3, h2, List.getElem?_append_left (List.getElem?_eq_some_iff.1 h1).1]
  exact h1
end Go.Proofs.Ytffaminjbcfojaa

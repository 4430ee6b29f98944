/- Elements of several cells: their fields' addresses, loads of whole elements. -/
import Derived.Test.YtffaminjbcfojaaV2
namespace Go.Proofs.Ytffaminjbcfojaa
open Go.RowKit
set_option linter.unusedVariables false
def fieldOffB (P : Program) (s : TypeId) (f : Nat) : Option Nat := match P.underlying s with
  | some (.struct fs) => match fs[f]? with
    | some x => match sizeB P x.type with
      | some (_ + 1) => some x.offset
      | _ => none
    | none => none
  | _ => none
theorem run_fa {P : Program} {s f off : Nat} {ad : Addr} {w : World} (h : fieldOffB P s f = some off) : (Instr.fieldAt s (.pointer (some ad)) f).run P w = .ok (.pointer (some (ad.add off))) w := by
  unfold fieldOffB at h
  split at h
  · rename_i fs hu
    split at h
    · rename_i x hf
      split at h
      · rename_i k hk
        injection h with h
        subst h
        simp [Instr.fieldAt, Instr.sureAddr, run_underlying hu, hf, fieldPlace, run_sizeOf hk]
      · cases h
    · cases h
  · cases h
theorem run_fa0 {P : Program} {s f : Nat} {ad : Addr} {w : World} (h : fieldOffB P s f = some 0) : (Instr.fieldAt s (.pointer (some ad)) f).run P w = .ok (.pointer (some ad)) w := by
  rw [run_fa h, Addr.add_zero']
theorem run_faj {P : Program} {s f j off : Nat} {ad : Addr} {w : World} (h : fieldOffB P s f = some off) : (Instr.fieldAt s (.pointer (some (ad.add j))) f).run P w = .ok (.pointer (some (ad.add (j + off)))) w := by
  rw [run_fa h, add_of_add]
theorem rd_cells {w : World} {size c k n : Nat} {ad : Addr} {α : Type} {enc : α → List Value} {L : List α} {x : α} (h : Rd w size (.slice (some ad) n c) L.length (cells enc L)) (he : ∀ x, (enc x).length = size) (hx : L[k]? = some x) :
    ∀ i u, (enc x)[i]? = some u → w.cell? ((ad.add (k * size)).add i) = some u := fun i u hu => by
  have hi := (List.getElem?_eq_some_iff.1 hu).1
  rw [he] at hi
  exact rd_cell h he hx (by simpa using hi) (by rw [nth_eq]; exact hu)
theorem rd_cellsJ {w : World} {size c k n j m : Nat} {ad : Addr} {α : Type} {enc : α → List Value} {L : List α} {x : α} {rs : List Value} (h : Rd w size (.slice (some ad) n c) L.length (cells enc L)) (he : ∀ x, (enc x).length = size) (hx : L[k]? = some x) (hrs : ((enc x).drop j).take m = rs) :
    ∀ i u, rs[i]? = some u → w.cell? (((ad.add (k * size)).add j).add i) = some u := fun i u hu => by
  subst hrs
  rw [List.getElem?_take] at hu
  split at hu
  · rw [List.getElem?_drop] at hu
    rw [add_of_add]
    exact rd_cells h he hx (j + i) u hu
  · cases hu
section
variable {P : Program} {S : World → Prop} {n : Nat} {a : Act} {σ : List (Nat × Value)} {o : Oper}
theorem yl_loadEl (hF : Fr n a σ) {t : TypeId} {x : Operand} {ad : Addr} {m : Nat} (rs : List Value) (ho : o.op = .load t x) (hx : opv σ x = some (.pointer (some ad))) (ha : aggB P t = some true) (hs : sizeB P t = some m) (hm : rs.length = m)
    (hr : ∀ w, S w → ∀ i u, rs[i]? = some u → w.cell? (ad.add i) = some u) : Yl P S a o (.agg rs.toArray) := fun w hw => by
  subst hm
  have hl := run_loadCells_list (P := P) w ad rs (hr w hw)
  simp [execOp, ho, hF.val hx, Instr.loadAt, Instr.sureAddr, loadVar, run_isAgg ha, run_sizeOf hs, hl]
end
end Go.Proofs.Ytffaminjbcfojaa

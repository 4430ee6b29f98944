/- Strings: parts, sums, sizes; slices of bytes and of strings; strings made of bytes. -/
import Derived.Test.YtlhcpeolkkadbaaY
import Derived.Laws.Strings3
import Derived.Laws.Concat
import Derived.Laws.BytesString
namespace Go.Proofs.Ytlhcpeolkkadbaa
open Go.RowKit
set_option linter.unusedVariables false

/-! ### the bytes of a string, as a list -/
def bl (s : ByteArray) : List UInt8 := s.data.toList
theorem bl_len (s : ByteArray) : (bl s).length = s.size := by cases s; simp [bl, ByteArray.size]
theorem bl_inj {a b : ByteArray} (h : bl a = bl b) : a = b := ByteArray.ext (Array.ext' h)
theorem bl_app (a b : ByteArray) : bl (a ++ b) = bl a ++ bl b := by unfold bl; rw [ByteArray.data_append]; simp
theorem bl_mk (l : List UInt8) : bl ⟨l.toArray⟩ = l := rfl
def subs (s : ByteArray) (i j : Int) : ByteArray := s.extract i.toNat j.toNat
theorem bl_subs (s : ByteArray) (i j : Int) : bl (subs s i j) = ((bl s).drop i.toNat).take (j.toNat - i.toNat) := by
  unfold bl subs; simp [ByteArray.data_extract]
theorem subs_size {s : ByteArray} {i j : Int} (h0 : 0 ≤ i) (h1 : i ≤ j) (h2 : j ≤ (s.size : Int)) : ((subs s i j).size : Int) = j - i := by
  rw [← bl_len, bl_subs, List.length_take, List.length_drop, bl_len]; omega
theorem cat_size (a b : ByteArray) : ((a ++ b).size : Int) = (a.size : Int) + (b.size : Int) := by
  rw [← bl_len, bl_app, List.length_append, bl_len, bl_len]; omega
theorem subs_all (s : ByteArray) : subs s 0 (s.size : Int) = s := by
  apply bl_inj; rw [bl_subs]; simp [← bl_len]
theorem cat_empty (s : ByteArray) : s ++ (⟨#[]⟩ : ByteArray) = s := by apply bl_inj; rw [bl_app]; simp [bl]
theorem empty_cat (s : ByteArray) : (⟨#[]⟩ : ByteArray) ++ s = s := by apply bl_inj; rw [bl_app]; simp [bl]
theorem cat_assoc (a b c : ByteArray) : a ++ b ++ c = a ++ (b ++ c) := by apply bl_inj; simp only [bl_app, List.append_assoc]

section
variable {P : Program} {t : TypeId} {w : World}
theorem run_catS {x y : ByteArray} (h : (x.size : Int) + (y.size : Int) ≤ 9223372036854775807) : (binOp .add t (.string x) (.string y)).run P w = .ok (.string (x ++ y)) w := by
  rw [binOp_string_add]; exact run_string_add_sum w _ _ (by omega)
theorem run_addW {x y : Int} : (binOp .add t (.int .i64 x) (.int .i64 y)).run P w = .ok (.int .i64 (IntKind.i64.wrap (x + y))) w := by rw [binOp_add]; rfl
end
section
variable {P : Program} {S : World → Prop} {n : Nat} {a : Act} {σ : List (Nat × Value)} {o : Oper}
theorem yl_subsLH (hF : Fr n a σ) {t : TypeId} {s : ByteArray} {i j : Int} {kd kd' : IntKind} {x y z : Operand} (ho : o.op = .slice t x (some y) (some z) none) (hx : opv σ x = some (.string s)) (hy : opv σ y = some (.int kd i)) (hz : opv σ z = some (.int kd' j))
    (ht : P.underlying t = some .string) (h0 : 0 ≤ i) (h1 : i ≤ j) (h2 : j ≤ (s.size : Int)) : Yl P S a o (.string (subs s i j)) := fun w _ => by
  have h := run_sliceAt_string (P := P) w t (.string s) (some (.int kd i)) (some (.int kd' j)) none ht
  rw [run_slice_string w t s kd kd' i j ht h0 h1 h2] at h
  simp [execOp, ho, hF.val hx, hF.val hy, hF.val hz, h, subs]
theorem yl_subsH (hF : Fr n a σ) {t : TypeId} {s : ByteArray} {j : Int} {kd' : IntKind} {x z : Operand} (ho : o.op = .slice t x none (some z) none) (hx : opv σ x = some (.string s)) (hz : opv σ z = some (.int kd' j))
    (ht : P.underlying t = some .string) (h1 : 0 ≤ j) (h2 : j ≤ (s.size : Int)) : Yl P S a o (.string (subs s 0 j)) := fun w _ => by
  have h := run_sliceAt_string (P := P) w t (.string s) none (some (.int kd' j)) none ht
  rw [run_slice_string_to_if w t s kd' j ht, if_pos ⟨h1, h2⟩] at h
  simp [execOp, ho, hF.val hx, hF.val hz, h, subs]
theorem yl_subsL (hF : Fr n a σ) {t : TypeId} {s : ByteArray} {i : Int} {kd : IntKind} {x y : Operand} (ho : o.op = .slice t x (some y) none none) (hx : opv σ x = some (.string s)) (hy : opv σ y = some (.int kd i))
    (ht : P.underlying t = some .string) (h0 : 0 ≤ i) (h1 : i ≤ (s.size : Int)) : Yl P S a o (.string (subs s i (s.size : Int))) := fun w _ => by
  have h := run_sliceAt_string (P := P) w t (.string s) (some (.int kd i)) none none ht
  rw [run_slice_string_from_if w t s kd i ht, if_pos ⟨h0, h1⟩] at h
  simp [execOp, ho, hF.val hx, hF.val hy, h, subs]
end

/-! ### elements: strings, bytes -/
def encS (x : ByteArray) : List Value := [.string x]
theorem encS_len (x : ByteArray) : (encS x).length = 1 := rfl
theorem encS_one (x : ByteArray) : ∀ u ∈ encS x, u.oneCell' = true := fun u hu => by simp [encS] at hu; subst hu; rfl
def encU (x : Int) : List Value := [.int .u8 x]
theorem encU_len (x : Int) : (encU x).length = 1 := rfl
theorem encU_one (x : Int) : ∀ u ∈ encU x, u.oneCell' = true := fun u hu => by simp [encU] at hu; subst hu; rfl
def encB (x : Bool) : List Value := [.bool x]
theorem encB_len (x : Bool) : (encB x).length = 1 := rfl
theorem encB_one (x : Bool) : ∀ u ∈ encB x, u.oneCell' = true := fun u hu => by simp [encB] at hu; subst hu; rfl
theorem made_U (m : Nat) : (madeCells (Value.int .u8 0).cells (m * 1)).toList = cells encU (List.replicate m (0 : Int)) := by
  rw [show (Value.int .u8 0).cells = #[Value.int .u8 0] from rfl, toList_madeCells_one, Nat.mul_one]
  induction m with
  | zero => rfl
  | succ m ih => rw [List.replicate_succ, List.replicate_succ, ih]; simp [cells, encU]
def bstr (L : List Int) : ByteArray := ⟨(L.map fun x => UInt8.ofNat x.toNat).toArray⟩
theorem bstr_size (L : List Int) : (bstr L).size = L.length := by simp [bstr, ByteArray.size]
theorem bl_bstr (L : List Int) : bl (bstr L) = L.map fun x => UInt8.ofNat x.toNat := rfl
theorem cellsU_map (L : List Int) : cells encU L = L.map (Value.int .u8) := by
  induction L with
  | nil => rfl
  | cons x r ih => simp [cells, encU] at ih ⊢; exact ih
theorem foldl_push (L : List Int) : ∀ s : ByteArray, bl (L.foldl (fun r n => r.push (UInt8.ofNat n.toNat)) s) = bl s ++ L.map fun x => UInt8.ofNat x.toNat := by
  induction L with
  | nil => intro s; simp
  | cons x r ih =>
    intro s
    rw [List.foldl_cons, ih]
    have : bl (s.push (UInt8.ofNat x.toNat)) = bl s ++ [UInt8.ofNat x.toNat] := by cases s; simp [bl, ByteArray.push]
    rw [this]; simp
section
variable {P : Program} {S : World → Prop} {n : Nat} {a : Act} {σ : List (Nat × Value)} {o : Oper}
theorem run_toStr {src dst e : TypeId} {w : World} {v : Value} {L : List Int} (hs : sliceB P src = some e) (he : P.underlying e = some (.int .u8)) (hd : P.underlying dst = some .string) (h : Rd w 1 v L.length (cells encU L)) : (convert src dst v).run P w = .ok (.string (bstr L)) w := by
  obtain ⟨A, c, rfl, hl, hnc, hc, hA, hx⟩ := h
  rw [run_convert_bytes_string w src dst e A L.length c (underlying_sliceB hs) he hd]
  rcases A with _ | ad
  · have := hA rfl
    have hL : L = [] := List.eq_nil_of_length_eq_zero (by omega)
    subst hL
    simp [Conv.bytesToString, Sem.run_pure]
    rfl
  · rw [run_bytesToString w ad L.length c L ?_]
    · congr 2
      apply bl_inj
      rw [foldl_push, bl_bstr]; rfl
    · have hcl := run_loadCells_list (P := P) w ad (cells encU L) (fun j u hu => by
        have hj := (List.getElem?_eq_some_iff.1 hu).1
        obtain ⟨ad', h1, _, h2⟩ := hx (by omega)
        injection h1 with h1; subst h1
        exact h2 j u hu)
      rw [cellsU_map, List.length_map] at hcl
      exact hcl
theorem yl_toStr (hF : Fr n a σ) {s d e : TypeId} {x : Operand} {v : Value} {L : List Int} (ho : o.op = .convert s d x) (hx : opv σ x = some v) (hs : sliceB P s = some e) (he : P.underlying e = some (.int .u8)) (hd : P.underlying d = some .string)
    (h : ∀ w, S w → Rd w 1 v L.length (cells encU L)) : Yl P S a o (.string (bstr L)) := fun w hw => by
  simp [execOp, ho, hF.val hx, run_toStr hs he hd (h w hw)]
end

/-! ### ends without results; predicates over whatever lies above a tail of the memory -/
section
variable {P : Program} {n : Nat} {a : Act} {σ : List (Nat × Value)} {w : World} {fn : Func} {R : Ending → World → Prop}
theorem ret_0 (hF : Fr n a σ) (hr : fn.results = #[]) (h : R (.returned (.tuple #[])) w) : bodyPost P fn R .ret a w :=
  ⟨hF.defers, _, by simp only [results, hr]; simp, h⟩
theorem ret_n (h : bodyPost P fn R .ret a w) : bodyPost P fn R .normal a w := h
end
def PredT {α : Type} (P : Program) (w0 : World) (Ht : List Chunk) (k : FuncId) (caps : List Value) (arg : α → Value) (p : α → Bool) : Prop :=
  ∀ (x : α) (w : World) (H' : List Chunk), Sat w0 w (H' ++ Ht) → Fn P k (arg x :: caps).toArray w (fun v w' => v = .bool (p x) ∧ Sat w0 w' (H' ++ Ht))
section
variable {P : Program} {t : TypeId} {w : World}
theorem run_addU {x y : Int} : (binOp .add t (.int .u8 x) (.int .u8 y)).run P w = .ok (.int .u8 (IntKind.u8.wrap (x + y))) w := by rw [binOp_add]; rfl
end
/-- a slice of no element reads as nothing, in whatever memory -/
def EmptyV (v : Value) : Prop := ∃ A c, v = .slice A 0 c ∧ c ≤ maxLen ∧ (A = none → c = 0)
theorem EmptyV.rd {v : Value} (h : EmptyV v) {α : Type} (enc : α → List Value) (size : Nat) (w : World) : Rd w size v ([] : List α).length (cells enc ([] : List α)) := by
  obtain ⟨A, c, rfl, h1, h2⟩ := h
  exact ⟨A, c, rfl, by simp [cells], Nat.zero_le _, h1, h2, fun h => absurd h (by simp)⟩
theorem EmptyV.of {w : World} {size n : Nat} {v : Value} {xs : List Value} (h : Rd w size v n xs) (hn : n = 0) : EmptyV v := by
  obtain ⟨A, c, rfl, hl, hnc, hc, hA, hx⟩ := h
  subst hn
  exact ⟨A, c, rfl, hc, hA⟩
theorem EmptyV.nil : EmptyV (.slice none 0 0) := ⟨none, 0, rfl, by simp [maxLen], fun _ => rfl⟩
/-- a slice that is owned, or only read -/
def pickC : Bool → TypeId → Nat → Value → Nat → List Value → Chunk
  | true, e, size, v, n, xs => .row e size v n xs
  | false, _, size, v, n, xs => .ro size v n xs
theorem set_same {α : Type} {H : List α} {i : Nat} {c : α} (hi : H[i]? = some c) : H.set i c = H := by
  apply List.ext_getElem?
  intro j
  rw [List.getElem?_set]
  split
  · rename_i e; subst e
    rw [if_pos (List.getElem?_eq_some_iff.1 hi).1, hi]
  · rfl
theorem Sat.pickRo {w0 w : World} {H : List Chunk} (h : Sat w0 w H) (i : Nat) {b : Bool} {e size n : Nat} {v : Value} {xs : List Value} (hi : H[i]? = some (pickC b e size v n xs)) : Sat w0 w (H.set i (.ro size v n xs)) := by
  cases b with
  | true => exact h.toRo i hi
  | false => have := set_same hi; simp only [pickC] at this; rw [this]; exact h
/-- a region that draws and reads the whole memory that the contract names -/
theorem ha_startW {P : Program} {Q : Exit → Act → World → Prop} {w0 w : World} {H : List Chunk} (hS : Sat w0 w H) (s : Nat) {id : Nat} {l : List Oper} {a : Act} (hm : P.follows .mixedOrders = true)
    (h : ∀ w, Sat w0 w H → HA P l.toArray Q (fun w' => Sat w0 w' H) s l.length (Array.replicate l.length false) a w) : (Code.region id l.toArray true).wp P Q a w :=
  ha_start _ s hm (h _ hS.drew)
end Go.Proofs.Ytlhcpeolkkadbaa

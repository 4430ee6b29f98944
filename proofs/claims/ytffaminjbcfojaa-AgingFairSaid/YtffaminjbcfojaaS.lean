/- Support: what the operations on numbers give; slices of elements; splits; the ends of a piece of code. -/
import Derived.Test.YtffaminjbcfojaaR
namespace Go.Proofs.Ytffaminjbcfojaa
open Go.RowKit
set_option linter.unusedVariables false

def i64 (x : Int) : Prop := -9223372036854775808 ≤ x ∧ x ≤ 9223372036854775807
theorem wrap_in {x : Int} (h : i64 x) : IntKind.i64.wrap x = x := IntWalk.i64_in _ h

section
variable {P : Program} {t : TypeId} {x y : Int} {w : World}
theorem run_lss {kd : IntKind} : (binOp .lss t (.int kd x) (.int kd y)).run P w = .ok (.bool (decide (x < y))) w := by rw [binOp_lss]; rfl
theorem run_leq {kd : IntKind} : (binOp .leq t (.int kd x) (.int kd y)).run P w = .ok (.bool (decide (x ≤ y))) w := by rw [binOp_leq]; rfl
theorem run_gtr {kd : IntKind} : (binOp .gtr t (.int kd x) (.int kd y)).run P w = .ok (.bool (decide (y < x))) w := by rw [binOp_gtr]; rfl
theorem run_geq {kd : IntKind} : (binOp .geq t (.int kd x) (.int kd y)).run P w = .ok (.bool (decide (y ≤ x))) w := by rw [binOp_geq]; rfl
theorem beq_dec (x y : Int) : (x == y) = decide (x = y) := by
  by_cases h : x = y
  · subst h; simp
  · rw [beq_eq_false_iff_ne.2 h]; simp [h]
theorem bne_dec (x y : Int) : (x != y) = decide (x ≠ y) := by
  unfold bne; rw [beq_dec]; by_cases h : x = y <;> simp [h]
theorem run_eql {kd : IntKind} : (binOp .eql t (.int kd x) (.int kd y)).run P w = .ok (.bool (decide (x = y))) w := by rw [binOp_eql, beq_dec]; rfl
theorem run_neq {kd : IntKind} : (binOp .neq t (.int kd x) (.int kd y)).run P w = .ok (.bool (decide (x ≠ y))) w := by rw [binOp_neq, bne_dec]; rfl
theorem run_add (h : i64 (x + y)) : (binOp .add t (.int .i64 x) (.int .i64 y)).run P w = .ok (.int .i64 (x + y)) w := by
  rw [binOp_add]; show Result.ok (Value.int .i64 (IntKind.i64.wrap (x + y))) w = _; rw [wrap_in h]
theorem run_sub (h : i64 (x - y)) : (binOp .sub t (.int .i64 x) (.int .i64 y)).run P w = .ok (.int .i64 (x - y)) w := by
  rw [binOp_sub]; show Result.ok (Value.int .i64 (IntKind.i64.wrap (x - y))) w = _; rw [wrap_in h]
theorem run_mul (h : i64 (x * y)) : (binOp .mul t (.int .i64 x) (.int .i64 y)).run P w = .ok (.int .i64 (x * y)) w := by
  rw [binOp_mul]; show Result.ok (Value.int .i64 (IntKind.i64.wrap (x * y))) w = _; rw [wrap_in h]
theorem run_inc {k : Nat} (h : k < 9223372036854775807) : (binOp .add t (.int .i64 (k : Int)) (.int .i64 1)).run P w = .ok (.int .i64 ((k + 1 : Nat) : Int)) w := by
  rw [run_add ⟨by omega, by omega⟩]; rfl
theorem run_eqb {a b : Bool} (ht : P.underlying t = some .bool) : (binOp .eql t (.bool a) (.bool b)).run P w = .ok (.bool (a == b)) w := run_eql_bool w t a b ht
theorem run_neb {a b : Bool} (ht : P.underlying t = some .bool) : (binOp .neq t (.bool a) (.bool b)).run P w = .ok (.bool (!(a == b))) w := run_neq_bool w t a b ht
theorem run_not {a : Bool} : (Op.unary .not (.bool a)).run P w = .ok (.bool !a) w := rfl
theorem run_lenNil {e : TypeId} (ht : sliceB P t = some e) {ty : TypeId} {c : Nat} : (Builtin.len_ #[t] ty #[.slice none 0 c]).run P w = .ok (.int .i64 ((0 : Nat) : Int)) w := by
  simp [Builtin.len_, run_underlying (underlying_sliceB ht), goInt]
theorem run_lenRd {ty e : TypeId} {size n : Nat} {v : Value} {xs : List Value} {w' : World} (ht : sliceB P t = some e) (h : Rd w' size v n xs) : (Builtin.len_ #[t] ty #[v]).run P w = .ok (.int .i64 (n : Int)) w := by
  obtain ⟨A, c, rfl, _⟩ := h
  simp [Builtin.len_, run_underlying (underlying_sliceB ht), goInt]
def rnd (n m : Int) : Int := if m < 1 then 0 else (n % 18446744073709551616) % m
theorem rnd_bounds (n m : Int) (h : 1 ≤ m) : 0 ≤ rnd n m ∧ rnd n m < m := by
  unfold rnd
  rw [if_neg (by omega)]
  exact ⟨Int.emod_nonneg _ (by omega), Int.emod_lt_of_pos _ (by omega)⟩
end

/-! ### slices of elements -/
def cells {α : Type} (enc : α → List Value) (l : List α) : List Value := l.flatMap enc
def encI (x : Int) : List Value := [.int .i64 x]
theorem cells_append {α : Type} (enc : α → List Value) (l m : List α) : cells enc (l ++ m) = cells enc l ++ cells enc m := by simp [cells]
theorem cells_one {α : Type} (enc : α → List Value) (x : α) : cells enc [x] = enc x := by simp [cells]
theorem cells_length {α : Type} {enc : α → List Value} {size : Nat} (he : ∀ x, (enc x).length = size) (l : List α) : (cells enc l).length = l.length * size := by
  induction l with
  | nil => simp [cells]
  | cons x r ih => have : cells enc (x :: r) = enc x ++ cells enc r := by simp [cells]
                   rw [this, List.length_append, ih, he]; simp [Nat.add_mul, Nat.add_comm]
theorem cells_at {α : Type} {enc : α → List Value} {size : Nat} (he : ∀ x, (enc x).length = size) (l : List α) (k : Nat) (x : α) (hk : l[k]? = some x) (j : Nat) (hj : j < size) : (cells enc l)[k * size + j]? = (enc x)[j]? := by
  induction l generalizing k with
  | nil => simp at hk
  | cons y r ih =>
    have e : cells enc (y :: r) = enc y ++ cells enc r := by simp [cells]
    rw [e, List.getElem?_append]
    cases k with
    | zero =>
      simp at hk; subst hk
      rw [if_pos (by rw [he]; omega)]; simp
    | succ k =>
      rw [if_neg (by rw [he, Nat.succ_mul]; omega)]
      have : (k + 1) * size + j - (enc y).length = k * size + j := by rw [he, Nat.succ_mul]; omega
      rw [this]
      exact ih k (by simpa using hk)
theorem cells_oneCell {α : Type} {enc : α → List Value} (he : ∀ x, ∀ u ∈ enc x, u.oneCell' = true) (l : List α) : ∀ u ∈ cells enc l, u.oneCell' = true := fun u hu => by
  obtain ⟨x, _, hx⟩ := List.mem_flatMap.1 hu
  exact he x u hx
theorem encI_len (x : Int) : (encI x).length = 1 := rfl
theorem encI_one (x : Int) : ∀ u ∈ encI x, u.oneCell' = true := fun u hu => by simp [encI] at hu; subst hu; rfl

theorem rd_nil (w : World) (size c : Nat) {α : Type} (enc : α → List Value) : Rd w size (.slice none 0 0) ([] : List α).length (cells enc ([] : List α)) :=
  ⟨none, 0, rfl, by simp [cells], Nat.le_refl _, by simp [maxLen], fun _ => rfl, fun h => absurd h (by simp)⟩

section
variable {P : Program} {n : Nat} {a : Act} {σ : List (Nat × Value)} {o : Oper} {Q : Exit → Act → World → Prop} {K : Act → World → Prop} {w w0 : World} {H : List Chunk}
/-- append, in lists of elements -/
theorem wp_app {α : Type} {enc : α → List Value} (hF : Fr n a σ) (hS : Sat w0 w H) {d : Nat} (hd : o.dst = some d) (hn : Nat.blt d n = true) {x y : Operand} {t e : TypeId} {v u : Value} {L M : List α} {size bytes : Nat} {z : Value}
    (ho : o.op = .call { callee := .builtin .append, args := #[x, y], argTypes := #[t, t] }) (hx : opv σ x = some v) (hy : opv σ y = some u)
    (i : Nat) (hi : H[i]? = some (.row e size v L.length (cells enc L))) (ht : sliceB P t = some e) (hinf : (P.info? e).map (fun i => (i.zero, i.size, i.bytes)) = some (some z, size, bytes)) (hz : z.cells.size = size) (hsz : 0 < size)
    (hu : Rd w size u M.length (cells enc M)) (h1 : ∀ x, ∀ u ∈ enc x, u.oneCell' = true) (hby : bytes ≤ 100000) (hb : L.length + M.length ≤ 1000000000)
    (h : ∀ a' w' v', Fr n a' ((d, v') :: σ) → Sat w0 w' (H.set i (.row e size v' (L ++ M).length (cells enc (L ++ M)))) → K a' w') : o.wp P a w K Q := by
  refine wp_append hF hS hd hn ho hx hy i hi ht hinf hz hsz hu (cells_oneCell h1 M) ?_ (by simp only [maxLen]; omega) fun a' w' v' hf hs => h a' w' v' hf ?_
  · calc (L.length + M.length) * bytes ≤ 1000000000 * 100000 := Nat.mul_le_mul hb hby
      _ ≤ 140737488355328 := by omega
  · rw [cells_append, List.length_append]; exact hs
/-- append to nil -/
theorem wp_app0 {α : Type} {enc : α → List Value} (hF : Fr n a σ) (hS : Sat w0 w H) {d : Nat} (hd : o.dst = some d) (hn : Nat.blt d n = true) {x y : Operand} {t e : TypeId} {u : Value} {M : List α} {size bytes : Nat} {z : Value}
    (ho : o.op = .call { callee := .builtin .append, args := #[x, y], argTypes := #[t, t] }) (hx : opv σ x = some (.slice none 0 0)) (hy : opv σ y = some u)
    (ht : sliceB P t = some e) (hinf : (P.info? e).map (fun i => (i.zero, i.size, i.bytes)) = some (some z, size, bytes)) (hz : z.cells.size = size) (hsz : 0 < size)
    (hu : Rd w size u M.length (cells enc M)) (h1 : ∀ x, ∀ u ∈ enc x, u.oneCell' = true) (hby : bytes ≤ 100000) (hb : M.length ≤ 1000000000)
    (h : ∀ a' w' v', Fr n a' ((d, v') :: σ) → Sat w0 w' (.row e size v' M.length (cells enc M) :: H) → K a' w') : o.wp P a w K Q := by
  refine wp_app (enc := enc) (L := []) hF (hS.addNil e size) hd hn ho hx hy 0 rfl ht hinf hz hsz hu h1 hby (by simpa using hb) fun a' w' v' hf hs => h a' w' v' hf (by simpa using hs)
/-- a slice written out -/
theorem wp_bslice {α : Type} {enc : α → List Value} (hF : Fr n a σ) (hS : Sat w0 w H) {d : Nat} (hd : o.dst = some d) (hn : Nat.blt d n = true) {t e : TypeId} {k size : Nat} {parts : List (Nat × Operand)} {vs : List (Nat × Value)} (ho : o.op = .buildSlice t k parts.toArray)
    (hx : parts.map (fun p => (p.1, opv σ p.2)) = vs.map (fun p => (p.1, some p.2))) (L : List α) {cs : Array Value}
    (hrun : ∀ w, (Instr.buildSlice t k vs.toArray).run P w = .ok (.slice (some ⟨w.heap.size, 0, none⟩) k k) (w.alloc (.cells cs e)))
    (hk : L.length = k) (hcs : cs.toList = cells enc L) (hs : cs.size = k * size) (hk2 : k ≤ 1000000)
    (h : ∀ a' w' v', Fr n a' ((d, v') :: σ) → Sat w0 w' (.row e size v' L.length (cells enc L) :: H) → K a' w') : o.wp P a w K Q := by
  have e1 : (parts.toArray.map fun p : Nat × Operand => (p.1, a.eval p.2)) = vs.toArray := by
    rw [List.map_toArray]
    congr 1
    clear hrun ho
    induction parts generalizing vs with
    | nil => cases vs with
      | nil => rfl
      | cons => simp at hx
    | cons p r ih => cases vs with
      | nil => simp at hx
      | cons q s =>
        simp only [List.map_cons, List.cons.injEq, Prod.mk.injEq] at hx
        obtain ⟨⟨h1, h2⟩, h3⟩ := hx
        rw [List.map_cons, ih h3, hF.val h2, h1]
  have hr : (execOp a.eval o).run P w = .ok (.value (.slice (some ⟨w.heap.size, 0, none⟩) k k)) (w.alloc (.cells cs e)) := by
    unfold execOp
    rw [ho]
    show (do let s ← Instr.buildSlice t k (parts.toArray.map fun p : Nat × Operand => (p.1, a.eval p.2)); pure (Next.value s) : Sem Next).run P w = _
    rw [e1]
    simp [hrun]
  have hb : Below w.heap.size w (w.alloc (.cells cs e)) := (Below.refl _ _).alloc (Nat.le_refl _) _
  have hrow : (w.alloc (.cells cs e)).ownsRow w.heap.size e size (.slice (some ⟨w.heap.size, 0, none⟩) k k) L.length (cells enc L) := by
    refine ⟨by rw [← hcs, hk]; simpa using hs, .inr ⟨w.heap.size, k, cs, by rw [hk], Nat.le_refl _, heap_alloc_new w _, by omega, by simp only [maxLen]; omega, hs, ?_⟩⟩
    rw [← hcs]; exact List.take_of_length_le (by rw [hk, ← hs]; simp)
  unfold Oper.wp
  rw [hr]
  exact h _ _ _ (hF.put' hd hn _) (hS.addRow hb hrow)
end

theorem Rd.form {w : World} {size n : Nat} {v : Value} {xs : List Value} (h : Rd w size v n xs) : ∃ A c, v = .slice A n c := by
  obtain ⟨A, c, hv, _⟩ := h; exact ⟨A, c, hv⟩
theorem Sat.form {w0 w : World} {H : List Chunk} (h : Sat w0 w H) (i : Nat) {e size n : Nat} {v : Value} {xs : List Value} (hi : H[i]? = some (.row e size v n xs)) : ∃ A c, v = .slice A n c := (h.rdRow i hi).form

theorem rd_none {w : World} {size c : Nat} {A : Option Addr} {α : Type} {enc : α → List Value} {L : List α} (h : Rd w size (.slice A L.length c) L.length (cells enc L)) (hA : A.isNone = true) : L = [] := by
  obtain ⟨A', c', hv, hl, hnc, hc, hn, hx⟩ := h
  injection hv with h1 h2 h3
  subst h1 h3
  cases A with
  | some a => cases hA
  | none => have := hn rfl; exact List.eq_nil_of_length_eq_zero (by omega)
theorem rd_some {w : World} {size c n m k : Nat} {A : Option Addr} {xs : List Value} (h : Rd w size (.slice A n c) m xs) (hk : k < m) : ∃ ad, A = some ad := by
  obtain ⟨A', c', hv, hl, hnc, hc, hn, hx⟩ := h
  injection hv with h1 h2 h3
  subst h1
  obtain ⟨ad, h, _⟩ := hx (by omega)
  exact ⟨ad, h⟩
theorem Rd.len {w : World} {size c n m : Nat} {A : Option Addr} {xs : List Value} (h : Rd w size (.slice A n c) m xs) : n = m := by
  obtain ⟨A', c', hv, _⟩ := h
  injection hv
theorem get_some {α : Type} {L : List α} {k : Nat} (h : k < L.length) : ∃ x, L[k]? = some x := ⟨_, List.getElem?_eq_getElem h⟩
theorem rd_cell {w : World} {size c j k n : Nat} {ad : Addr} {α : Type} {enc : α → List Value} {L : List α} {x : α} {u : Value} (h : Rd w size (.slice (some ad) n c) L.length (cells enc L)) (he : ∀ x, (enc x).length = size)
    (hx : L[k]? = some x) (hj : Nat.blt j size = true) (hu : nth (enc x) j = some u) : w.cell? ((ad.add (k * size)).add j) = some u := by
  have hk := (List.getElem?_eq_some_iff.1 hx).1
  obtain ⟨A', c', hv, hl, hnc, hc, hn, hcell⟩ := h
  injection hv with h1 h2 h3
  subst h1
  obtain ⟨ad', h, _, hcl⟩ := hcell (by omega)
  injection h with h
  subst h
  rw [add_of_add]
  refine hcl _ _ ?_
  rw [cells_at he L k x hx j (by simpa using hj), ← nth_eq]
  exact hu
theorem rd_cell0 {w : World} {size c k n : Nat} {ad : Addr} {α : Type} {enc : α → List Value} {L : List α} {x : α} {u : Value} (h : Rd w size (.slice (some ad) n c) L.length (cells enc L)) (he : ∀ x, (enc x).length = size)
    (hx : L[k]? = some x) (hj : Nat.blt 0 size = true) (hu : nth (enc x) 0 = some u) : w.cell? (ad.add (k * size)) = some u := by
  have := rd_cell h he hx hj hu
  rwa [Addr.add_zero'] at this
theorem run_idx {P : Program} {t e s n c k : Nat} {ad : Addr} {kd : IntKind} {w : World} (ht : sliceB P t = some e) (hs : sizeB P e = some s) (hk : k < n) : (Instr.indexAt t (.slice (some ad) n c) (.int kd ((k : Nat) : Int))).run P w = .ok (.pointer (some (ad.add (k * s)))) w := by
  have hu := underlying_sliceB ht
  have he : P.elem t = e := by unfold Program.elem; rw [hu]
  rw [run_indexAt_slice w t ad n c kd (k : Int) (by rw [he]; exact hu), if_pos ⟨by omega, by omega⟩, he, run_sizeOf hs]
  simp
theorem run_idx' {P : Program} {t e s n m c k size : Nat} {ad : Addr} {kd : IntKind} {xs : List Value} {w w' : World} (ht : sliceB P t = some e) (hs : sizeB P e = some s) (h : Rd w' size (.slice (some ad) n c) m xs) (hk : k < m) : (Instr.indexAt t (.slice (some ad) n c) (.int kd ((k : Nat) : Int))).run P w = .ok (.pointer (some (ad.add (k * s)))) w :=
  run_idx ht hs (by rw [h.len]; exact hk)
theorem run_slnil {P : Program} {t e : TypeId} {A : Option Addr} {n c n' c' : Nat} {w : World} (ht : sliceB P t = some e) : (binOp .eql t (.slice A n c) (.slice none n' c')).run P w = .ok (.bool A.isNone) w := Lib.run_eql_slice_nil w t e A n c n' c' (underlying_sliceB ht)
theorem fr_set {n : Nat} {a : Act} {σ : List (Nat × Value)} {d : Nat} {b b' : Bool} (hF : Fr n a ((d, .bool b) :: σ)) (h : b = b') : Fr n a ((d, .bool b') :: σ) := h ▸ hF

/-! ### splits, ends -/
theorem bnot_t {b : Bool} (h : (!b) = true) : b = false := by cases b <;> simp_all
theorem bnot_f {b : Bool} (h : (!b) = false) : b = true := by cases b <;> simp_all
theorem fr_split {n : Nat} {a : Act} {σ : List (Nat × Value)} {d : Nat} {b : Bool} {G : Prop} (hF : Fr n a ((d, .bool b) :: σ)) (ht : b = true → Fr n a ((d, .bool true) :: σ) → G) (hf : b = false → Fr n a ((d, .bool false) :: σ) → G) : G := by
  cases b with
  | true => exact ht rfl hF
  | false => exact hf rfl hF
def allOwned : List Chunk → Bool
  | [] => true
  | .ro .. :: _ => false
  | _ :: r => allOwned r
theorem allOwned_reads : ∀ {H : List Chunk}, allOwned H = true → ∀ (i : Nat) (c : Chunk), H[i]? = some c → c.reads = none
  | [], _, i, c, hi => by simp at hi
  | .ro .. :: r, h, _, _, _ => by simp [allOwned] at h
  | .box .. :: r, h, i, c, hi => by
    cases i with
    | zero => simp at hi; subst hi; rfl
    | succ i => exact allOwned_reads (H := r) h i c (by simpa using hi)
  | .row .. :: r, h, i, c, hi => by
    cases i with
    | zero => simp at hi; subst hi; rfl
    | succ i => exact allOwned_reads (H := r) h i c (by simpa using hi)
  | .obj .. :: r, h, i, c, hi => by
    cases i with
    | zero => simp at hi; subst hi; rfl
    | succ i => exact allOwned_reads (H := r) h i c (by simpa using hi)
theorem Sat.callB {w0 w w' : World} {H H' : List Chunk} (h : Sat w0 w H) (h' : Sat w w' H') (hr : allOwned H' = true) : Sat w0 w' (H' ++ H) := h.call h' (allOwned_reads hr)

section
variable {P : Program} {Q : Exit → Act → World → Prop} {Y : Act → World → Prop} {a : Act} {w : World}
theorem then_n (h : Y a w) : Exit.then Y Q .normal a w := h
theorem then_r (h : Q .ret a w) : Exit.then Y Q .ret a w := h
theorem then_x {id : Nat} (h : Q (.exit id) a w) : Exit.then Y Q (.exit id) a w := h
theorem inb_n {id : Nat} (h : Q .normal a w) : Exit.inBlock id Q .normal a w := h
theorem inb_r {id : Nat} (h : Q .ret a w) : Exit.inBlock id Q .ret a w := h
theorem inb_x {id : Nat} (h : Q .normal a w) : Exit.inBlock id Q (.exit id) a w := by
  show (if id = id then Q .normal a w else Q (.exit id) a w)
  rw [if_pos rfl]; exact h
theorem inb_o {id id' : Nat} (hne : id' ≠ id) (h : Q (.exit id') a w) : Exit.inBlock id Q (.exit id') a w := by
  show (if id' = id then Q .normal a w else Q (.exit id') a w)
  rw [if_neg hne]; exact h
theorem c_loop {c : Code} (I : Nat → Act → World → Prop) (n0 : Nat) (h0 : I n0 a w) (round : ∀ m a w, I m a w → c.wp P (Exit.then (fun a' w' => ∃ m', m' < m ∧ I m' a' w') Q) a w) : (Code.loop c).wp P Q a w :=
  wp_loop_ghost I n0 h0 round
end
end Go.Proofs.Ytffaminjbcfojaa

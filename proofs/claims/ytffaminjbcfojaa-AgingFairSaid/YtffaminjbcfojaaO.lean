/- The operations of the model, one lemma each, over frames as lists and memory as chunks. -/
import Derived.Test.YtffaminjbcfojaaL
namespace Go.Proofs.Ytffaminjbcfojaa
open Go.RowKit
set_option linter.unusedVariables false

def aggB (P : Program) (t : TypeId) : Option Bool := (P.underlying t).map fun d => match d with | .struct _ | .array _ _ => true | _ => false
def sizeB (P : Program) (t : TypeId) : Option Nat := (P.info? t).map (·.size)
def zeroB (P : Program) (t : TypeId) : Option Value := (P.info? t).bind (·.zero)
def sliceB (P : Program) (t : TypeId) : Option TypeId := (P.underlying t).bind fun d => match d with | .slice e => some e | _ => none

section
variable {P : Program}
theorem run_isAgg {t : TypeId} {b : Bool} (h : aggB P t = some b) (w : World) : (isAgg t).run P w = .ok b w := by
  unfold aggB at h
  obtain ⟨d, hd, hb⟩ := Option.map_eq_some_iff.1 h
  unfold isAgg
  simp only [Sem.run_bind, run_underlying hd, Result.andThen_ok]
  subst hb
  cases d <;> rfl
theorem run_sizeOf {t : TypeId} {n : Nat} (h : sizeB P t = some n) (w : World) : (sizeOf t).run P w = .ok n w := by
  unfold sizeB at h
  obtain ⟨i, hi, hn⟩ := Option.map_eq_some_iff.1 h
  simp [sizeOf, typeInfo, hi, hn]
theorem run_zeroValue {t : TypeId} {v : Value} (h : zeroB P t = some v) (w : World) : (zeroValue t).run P w = .ok v w := by
  unfold zeroB at h
  obtain ⟨i, hi, hn⟩ := Option.bind_eq_some_iff.1 h
  simp [zeroValue, typeInfo, hi, hn]
theorem underlying_sliceB {t e : TypeId} (h : sliceB P t = some e) : P.underlying t = some (.slice e) := by
  unfold sliceB at h
  obtain ⟨d, hd, hn⟩ := Option.bind_eq_some_iff.1 h
  cases d <;> simp at hn
  subst hn; exact hd
end

/-! ### an operation that leaves the world alone yields v in every world of a class -/
def Yl (P : Program) (S : World → Prop) (a : Act) (o : Oper) (v : Value) : Prop := ∀ w, S w → (execOp a.eval o).run P w = .ok (.value v) w

section
variable {P : Program} {S : World → Prop} {n : Nat} {a : Act} {σ : List (Nat × Value)} {o : Oper}

theorem yl_move (hF : Fr n a σ) {x : Operand} {v : Value} (ho : o.op = .move x) (hx : opv σ x = some v) : Yl P S a o v := fun w _ => by
  simp [execOp, ho, hF.val hx]
theorem yl_assign (hF : Fr n a σ) {x : Operand} {v : Value} (ho : o.op = .assign x) (hx : opv σ x = some v) : Yl P S a o v := fun w _ => by
  simp [execOp, ho, hF.val hx]
theorem yl_pick (hF : Fr n a σ) {c x y : Operand} {b : Bool} {u v : Value} (ho : o.op = .pick c x y) (hc : opv σ c = some (.bool b)) (hx : b = true → opv σ x = some u) (hy : b = false → opv σ y = some u) : Yl P S a o u := fun w _ => by
  cases b with
  | true => simp [execOp, ho, hF.val hc, hF.val (hx rfl), asBool]
  | false => simp [execOp, ho, hF.val hc, hF.val (hy rfl), asBool]
theorem yl_bin (hF : Fr n a σ) {b : BinOp} {t t' : TypeId} {x y : Operand} {u v r : Value} (ho : o.op = .binOp b t x y t') (hx : opv σ x = some u) (hy : opv σ y = some v)
    (hg : eqGuard b t x y u v = pure ()) (hrun : ∀ w, (binOp b t u v).run P w = .ok r w) : Yl P S a o r := fun w _ => by
  simp [execOp, ho, hF.val hx, hF.val hy, hg, hrun]
theorem yl_un (hF : Fr n a σ) {b : UnOp} {t : TypeId} {x : Operand} {u r : Value} (ho : o.op = .unOp b t x) (hx : opv σ x = some u)
    (hrun : ∀ w, (Op.unary b u).run P w = .ok r w) : Yl P S a o r := fun w _ => by
  simp [execOp, ho, hF.val hx, hrun]
theorem yl_conv (hF : Fr n a σ) {s d : TypeId} {x : Operand} {u r : Value} (ho : o.op = .convert s d x) (hx : opv σ x = some u)
    (hrun : ∀ w, (convert s d u).run P w = .ok r w) : Yl P S a o r := fun w _ => by
  simp [execOp, ho, hF.val hx, hrun]
theorem yl_fieldAddr (hF : Fr n a σ) {s : TypeId} {x : Operand} {f : Nat} {u r : Value} (ho : o.op = .fieldAddr s x f) (hx : opv σ x = some u)
    (hrun : ∀ w, (Instr.fieldAt s u f).run P w = .ok r w) : Yl P S a o r := fun w _ => by
  simp [execOp, ho, hF.val hx, hrun]
theorem yl_field (hF : Fr n a σ) {s : TypeId} {x : Operand} {f : Nat} {u r : Value} (ho : o.op = .field s x f) (hx : opv σ x = some u)
    (hrun : ∀ w, (Instr.field s u f).run P w = .ok r w) : Yl P S a o r := fun w _ => by
  simp [execOp, ho, hF.val hx, hrun]
theorem yl_extract (hF : Fr n a σ) {x : Operand} {k : Nat} {vs : Array Value} {r : Value} (ho : o.op = .extract x k) (hx : opv σ x = some (.tuple vs)) (hk : nth vs.toList k = some r) : Yl P S a o r := fun w _ => by
  rw [nth_eq] at hk
  have hk' : vs[k]? = some r := by simpa using hk
  simp [execOp, ho, hF.val hx, Instr.extract, hk']
theorem yl_build0 (hF : Fr n a σ) {t : TypeId} {r : Value} (ho : o.op = .build t #[])
    (hrun : ∀ w, (Instr.build t #[]).run P w = .ok r w) : Yl P S a o r := fun w _ => by
  simp [execOp, ho, hrun]
theorem yl_build1 (hF : Fr n a σ) {t : TypeId} {parts : List (Nat × Operand)} {vs : List (Nat × Value)} {r : Value} (ho : o.op = .build t parts.toArray)
    (hx : parts.map (fun p => (p.1, opv σ p.2)) = vs.map (fun p => (p.1, some p.2)))
    (hrun : ∀ w, (Instr.build t vs.toArray).run P w = .ok r w) : Yl P S a o r := fun w _ => by
  have e : (parts.toArray.map fun p : Nat × Operand => (p.1, a.eval p.2)) = vs.toArray := by
    rw [List.map_toArray]
    congr 1
    clear hrun ho
    induction parts generalizing vs with
    | nil => cases vs with
      | nil => rfl
      | cons => simp at hx
    | cons p r ih => cases vs with
      | nil => simp at hx
      | cons q s =>
        simp only [List.map_cons, List.cons.injEq, Prod.mk.injEq] at hx
        obtain ⟨⟨h1, h2⟩, h3⟩ := hx
        rw [List.map_cons, ih h3, hF.val h2, h1]
  have e' : (parts.toArray.map fun x : Nat × Operand => match x with | (i, x) => (i, a.eval x)) = vs.toArray := e
  simp [execOp, ho]
  rw [List.map_toArray] at e
  have e2 := congrArg Array.toList e
  simp at e2
  rw [e2]
  simp [hrun]
theorem yl_indexAddr (hF : Fr n a σ) {t : TypeId} {x i : Operand} {u v r : Value} (ho : o.op = .indexAddr t x i) (hx : opv σ x = some u) (hi : opv σ i = some v)
    (hrun : ∀ w, (Instr.indexAt t u v).run P w = .ok r w) : Yl P S a o r := fun w _ => by
  simp [execOp, ho, hF.val hx, hF.val hi, hrun]
theorem yl_len (hF : Fr n a σ) {t : TypeId} {x : Operand} {u r : Value} (ho : o.op = .call { callee := .builtin .len, args := #[x], argTypes := #[t] }) (hx : opv σ x = some u)
    (hrun : ∀ w, (Builtin.len_ #[t] o.type #[u]).run P w = .ok r w) : Yl P S a o r := fun w _ => by
  simp [execOp, ho, resolve, invoke, builtin, hF.val hx, hrun]
/-- a part of one cell of a box -/
theorem yl_load {w0 : World} {H : List Chunk} (hS : ∀ w, S w → Sat w0 w H) (hF : Fr n a σ) {t : TypeId} {x : Operand} {g off T : Nat} {cs : Array Value} {r : Value} (ho : o.op = .load t x)
    (hx : opv σ x = some (.pointer (some ⟨g, off, none⟩))) (i : Nat) (hi : H[i]? = some (.box g T cs)) (ha : aggB P t = some false) (hr' : nth cs.toList off = some r) : Yl P S a o r := fun w hw => by
  have hr : cs[off]? = some r := by rw [nth_eq] at hr'; simpa using hr'
  have hc := (hS w hw).cell i hi off
  rw [hr] at hc
  simp [execOp, ho, hF.val hx, Instr.loadAt, Instr.sureAddr, loadVar, run_isAgg ha, hc]
/-- a part of several cells of a box -/
theorem yl_loadN {w0 : World} {H : List Chunk} (hS : ∀ w, S w → Sat w0 w H) (hF : Fr n a σ) {t : TypeId} {x : Operand} {g off T : Nat} {cs : Array Value} {rs : List Value} (ho : o.op = .load t x)
    (hx : opv σ x = some (.pointer (some ⟨g, off, none⟩))) (i : Nat) (hi : H[i]? = some (.box g T cs)) (ha : aggB P t = some true) (hs : sizeB P t = some rs.length) (hr : (cs.toList.drop off).take rs.length = rs) : Yl P S a o (.agg rs.toArray) := fun w hw => by
  have hl : (loadCells ⟨g, off, none⟩ rs.length).run P w = .ok rs.toArray w := run_loadCells_list w _ rs (fun j v hj => by
    rw [Addr.add_lit, (hS w hw).cell i hi (off + j)]
    rw [← hr] at hj
    rw [List.getElem?_take] at hj
    split at hj
    · simpa using hj
    · cases hj)
  simp [execOp, ho, hF.val hx, Instr.loadAt, Instr.sureAddr, loadVar, run_isAgg ha, run_sizeOf hs, hl]
theorem yl_loadK {w0 : World} {H : List Chunk} (hS : ∀ w, S w → Sat w0 w H) (hF : Fr n a σ) {t : TypeId} {x : Operand} {g off T k : Nat} {cs : Array Value} {rs : List Value} (ho : o.op = .load t x)
    (hx : opv σ x = some (.pointer (some ⟨g, off, none⟩))) (i : Nat) (hi : H[i]? = some (.box g T cs)) (ha : aggB P t = some true) (hs : sizeB P t = some k) (hr : (cs.toList.drop off).take k = rs) (hk : rs.length = k) : Yl P S a o (.agg rs.toArray) := by
  subst hk
  exact yl_loadN hS hF ho hx i hi ha hs hr
/-- an element of one cell of a slice that reads -/
theorem yl_loadAt (hF : Fr n a σ) {t : TypeId} {x : Operand} {ad : Addr} {r : Value} (ho : o.op = .load t x)
    (hx : opv σ x = some (.pointer (some ad))) (ha : aggB P t = some false) (hr : ∀ w, S w → w.cell? ad = some r) : Yl P S a o r := fun w hw => by
  simp [execOp, ho, hF.val hx, Instr.loadAt, Instr.sureAddr, loadVar, run_isAgg ha, hr w hw]
end

/-! ### a struct built of its parts -/
def putL : List Value → Nat → List Value → List Value
  | cs, _, [] => cs
  | cs, off, v :: r => putL (cs.set off v) (off + 1) r
def fillL (places : List (Nat × Nat)) : List Value → List (Nat × Value) → List Value
  | cs, [] => cs
  | cs, (i, v) :: rest => match nth places i with
    | some (off, _) => fillL places (putL cs off v.cells.toList) rest
    | none => cs
def okL (places : List (Nat × Nat)) (n : Nat) : List (Nat × Value) → Bool
  | [] => true
  | (i, v) :: rest => match nth places i with
    | some (off, size) => Nat.beq v.cells.toList.length size && Nat.ble (off + size) n && okL places n rest
    | none => false
theorem putL_length : ∀ (l : List Value) (cs : List Value) (off : Nat), (putL cs off l).length = cs.length
  | [], _, _ => rfl
  | v :: r, cs, off => by simp [putL, putL_length r]
theorem foldl_put (off : Nat) : ∀ (l : List Value) (k : Nat) (arr : Array Value), (l.zipIdx k).foldl (fun cs (p : Value × Nat) => cs.setIfInBounds (off + p.2) p.1) arr = (putL arr.toList (off + k) l).toArray
  | [], k, arr => by simp [putL]
  | v :: r, k, arr => by
    rw [List.zipIdx_cons, List.foldl_cons, foldl_put off r (k + 1)]
    simp [putL, Nat.add_assoc]
theorem fill_eq (places : List (Nat × Nat)) : ∀ (parts : List (Nat × Value)) (cs : List Value), okL places cs.length parts = true → Instr.fill (fun i => places.toArray[i]?) cs.toArray parts = some (fillL places cs parts).toArray
  | [], cs, _ => rfl
  | (i, v) :: rest, cs, h => by
    unfold okL at h
    unfold Instr.fill fillL
    have e : places.toArray[i]? = nth places i := by rw [nth_eq]; simp
    rw [e]
    cases hp : nth places i with
    | none => rw [hp] at h; cases h
    | some q =>
      obtain ⟨off, size⟩ := q
      rw [hp] at h
      simp only [Bool.and_eq_true] at h
      obtain ⟨⟨h1, h2⟩, h3⟩ := h
      have h1' : v.cells.size = size := by have := Nat.eq_of_beq_eq_true h1; simpa using this
      have h2' : off + size ≤ cs.length := Nat.le_of_ble_eq_true h2
      simp only []
      rw [if_neg (by simp [h1']; omega)]
      have hf : (v.cells.zipIdx.foldl (fun cs (x : Value × Nat) => match x with | (c, j) => cs.setIfInBounds (off + j) c) cs.toArray) = (putL cs off v.cells.toList).toArray := by
        have := foldl_put off v.cells.toList 0 cs.toArray
        simp only [Nat.add_zero] at this
        rw [← this, ← Array.foldl_toList, Array.toList_zipIdx]
      rw [hf]
      exact fill_eq places rest _ (by rw [putL_length]; exact h3)
def bres (P : Program) (pl : Nat → Option (Nat × Nat)) (z : Array Value) (parts : Array (Nat × Value)) (w : World) : Result Value :=
  (match Instr.fill pl z parts.toList with
  | some cells => (pure (.agg cells) : Sem Value)
  | none => stuck "build: no such field, or a part of the wrong size").run P w
theorem yl_build {P : Program} {S : World → Prop} {n : Nat} {a : Act} {σ : List (Nat × Value)} {o : Oper} (hF : Fr n a σ) {t : TypeId} {parts : List (Nat × Operand)} {vs : List (Nat × Value)} {places : List (Nat × Nat)} {z cs : List Value}
    (hb : ∀ parts w, (Instr.build t parts).run P w = bres P (fun i => places.toArray[i]?) z.toArray parts w) (ho : o.op = .build t parts.toArray)
    (hx : parts.map (fun p => (p.1, opv σ p.2)) = vs.map (fun p => (p.1, some p.2))) (hok : okL places z.length vs = true) (hcs : fillL places z vs = cs) : Yl P S a o (.agg cs.toArray) :=
  yl_build1 hF ho hx fun w => by
    rw [hb]
    unfold bres
    rw [show vs.toArray.toList = vs from rfl, fill_eq places vs z hok, hcs]
    rfl

/-! ### is an operation carried out? -/
def Wn (ops : Array Oper) (a : Act) (o : Oper) (b : Bool) : Prop := Region.wanted o (yielded ops a.tmps) = b
section
variable {n : Nat} {a : Act} {σ : List (Nat × Value)} {o : Oper} {ops : Array Oper}
theorem wn_none (hg : o.guard = none) : Wn ops a o true := by simp [Wn, Region.wanted, hg]
theorem yielded_of (hF : Fr n a σ) {j d : Nat} {oj : Oper} {b : Bool} (hj : ops[j]? = some oj) (hd : oj.dst = some d) (hv : look σ d = some (.bool b)) : yielded ops a.tmps j = some b := by
  have h := hF.get d _ hv
  have hlt : d < a.tmps.size := by
    rcases Nat.lt_or_ge d a.tmps.size with h' | h'
    · exact h'
    · simp [Array.getElem?_eq_none h'] at h
      simp [undef] at h
  have h2 : a.tmps[d]? = some (.bool b) := by
    rw [Array.getElem?_eq_getElem hlt]
    simpa [Array.getD, hlt] using h
  simp [yielded, hj, hd, h2]
theorem yielded_undef (hF : Fr n a σ) {j d : Nat} {oj : Oper} (hj : ops[j]? = some oj) (hd : oj.dst = some d) (hv : look σ d = some undef) : yielded ops a.tmps j = none := by
  have h := hF.get d _ hv
  unfold yielded
  simp only [hj, hd, Option.bind_some]
  rcases Nat.lt_or_ge d a.tmps.size with h' | h'
  · have h2 : a.tmps[d]? = some undef := by
      rw [Array.getElem?_eq_getElem h']
      simpa [Array.getD, h'] using h
    simp [h2, undef]
  · simp [Array.getElem?_eq_none h']
theorem wn_guard (hF : Fr n a σ) {j d : Nat} {want b : Bool} {oj : Oper} (hg : o.guard = some (j, want)) (hj : ops[j]? = some oj) (hd : oj.dst = some d) (hv : look σ d = some (.bool b)) : Wn ops a o (b == want) := by
  unfold Wn Region.wanted
  simp only [hg, yielded_of hF hj hd hv]
  cases b <;> cases want <;> rfl
theorem wn_t (hF : Fr n a σ) {j d : Nat} {want : Bool} {oj : Oper} (hg : o.guard = some (j, want)) (hj : ops[j]? = some oj) (hd : oj.dst = some d) (hv : look σ d = some (.bool want)) : Wn ops a o true := by
  have := wn_guard hF hg hj hd hv
  simpa using this
theorem wn_f (hF : Fr n a σ) {j d : Nat} {want : Bool} {oj : Oper} (hg : o.guard = some (j, want)) (hj : ops[j]? = some oj) (hd : oj.dst = some d) (hv : look σ d = some (.bool (!want))) : Wn ops a o false := by
  have := wn_guard hF hg hj hd hv
  cases want <;> simpa using this
theorem wn_u (hF : Fr n a σ) {j d : Nat} {want : Bool} {oj : Oper} (hg : o.guard = some (j, want)) (hj : ops[j]? = some oj) (hd : oj.dst = some d) (hv : look σ d = some undef) : Wn ops a o false := by
  unfold Wn Region.wanted
  simp only [hg, yielded_undef hF hj hd hv]
  rfl
end

/-! ### one operation in a sequence -/
section
variable {P : Program} {n : Nat} {a : Act} {σ : List (Nat × Value)} {o : Oper} {ops : Array Oper} {rest : List Oper} {Q : Exit → Act → World → Prop} {K : Act → World → Prop} {w : World}
theorem seq_wp (hw : Wn ops a o true) (h : o.wp P a w (wpList P ops Q rest) Q) : wpList P ops Q (o :: rest) a w := by
  unfold wpList
  rw [if_pos (show Region.wanted o (yielded ops a.tmps) = true from hw)]
  exact .inl h
theorem wp_yl {S : World → Prop} (hF : Fr n a σ) {d : Nat} (hd : o.dst = some d) (hn : Nat.blt d n = true) {v : Value} (hS : S w) (hy : Yl P S a o v) (h : ∀ a', Fr n a' ((d, v) :: σ) → K a' w) : o.wp P a w K Q := by
  unfold Oper.wp
  rw [hy w hS]
  exact h _ (hF.put' hd hn v)
theorem seq_yl (hF : Fr n a σ) (hw : Wn ops a o true) {d : Nat} (hd : o.dst = some d) (hn : Nat.blt d n = true) {v : Value} (hy : Yl P (fun w' => w' = w) a o v)
    (h : ∀ a', Fr n a' ((d, v) :: σ) → wpList P ops Q rest a' w) : wpList P ops Q (o :: rest) a w :=
  seq_wp hw (wp_yl (S := fun w' => w' = w) hF hd hn rfl hy h)
theorem seq_skip (hF : Fr n a σ) (hw : Wn ops a o false) {d : Nat} (hd : o.dst = some d) (hn : Nat.blt d n = true)
    (h : ∀ a', Fr n a' ((d, undef) :: σ) → wpList P ops Q rest a' w) : wpList P ops Q (o :: rest) a w := by
  unfold wpList
  rw [if_neg (by rw [show Region.wanted o (yielded ops a.tmps) = false from hw]; simp)]
  exact h _ (hF.put' hd hn _)

/-- a new variable that holds v -/
theorem wp_box {w0 : World} {H : List Chunk} (hF : Fr n a σ) (hS : Sat w0 w H) {d : Nat} (hd : o.dst = some d) (hn : Nat.blt d n = true) {T : TypeId} {x : Operand} {u : Value} (ho : o.op = .box T x) (hx : opv σ x = some u)
    {cs : Array Value} (hcs : u.cells = cs) (h : ∀ a' w' g, Fr n a' ((d, .pointer (some ⟨g, 0, none⟩)) :: σ) → Sat w0 w' (.box g T cs :: H) → K a' w') : o.wp P a w K Q := by
  have hr : (execOp a.eval o).run P w = .ok (.value (.pointer (some ⟨w.heap.size, 0, none⟩))) (w.alloc (.cells cs T)) := by
    simp only [execOp, ho, hF.val hx, Instr.box, newVar, newRow, hcs]
    rfl
  unfold Oper.wp
  rw [hr]
  exact h _ _ _ (hF.put' hd hn _) (hS.alloc T cs)
/-- a new variable that holds its type's zero value -/
theorem wp_alloc {w0 : World} {H : List Chunk} (hF : Fr n a σ) (hS : Sat w0 w H) {d : Nat} (hd : o.dst = some d) (hn : Nat.blt d n = true) {T : TypeId} {u : Value} (ho : o.op = .alloc T) (hz : zeroB P T = some u)
    {cs : Array Value} (hcs : u.cells = cs) (h : ∀ a' w' g, Fr n a' ((d, .pointer (some ⟨g, 0, none⟩)) :: σ) → Sat w0 w' (.box g T cs :: H) → K a' w') : o.wp P a w K Q := by
  have hr : (execOp a.eval o).run P w = .ok (.value (.pointer (some ⟨w.heap.size, 0, none⟩))) (w.alloc (.cells cs T)) := by
    simp only [execOp, ho, Instr.alloc, Sem.run_bind, run_zeroValue hz, Result.andThen_ok, newVar, newRow, hcs]
    rfl
  unfold Oper.wp
  rw [hr]
  exact h _ _ _ (hF.put' hd hn _) (hS.alloc T cs)
/-- a store into a box: one cell or several -/
theorem wp_store {w0 : World} {H : List Chunk} (hF : Fr n a σ) (hS : Sat w0 w H) (hd : o.dst = none) {t : TypeId} {x y : Operand} {g off T : Nat} {cs cs' : Array Value} {u : Value} (ho : o.op = .store t x y)
    (hx : opv σ x = some (.pointer (some ⟨g, off, none⟩))) (hy : opv σ y = some u) (i : Nat) (hi : H[i]? = some (.box g T cs)) (hs : sizeB P t = some u.cells.size) (h1 : ∀ v ∈ u.cells.toList, v.oneCell' = true)
    (hfit : off + u.cells.size ≤ cs.size) (hcs : (cs.toList.take off ++ u.cells.toList ++ cs.toList.drop (off + u.cells.size)).toArray = cs') (h : ∀ a' w', Fr n a' σ → Sat w0 w' (H.set i (.box g T cs')) → K a' w') : o.wp P a w K Q := by
  have hb := hS.boxAt i hi
  have hst := run_storeCells_at P g off T u.cells.toList 0 cs w hb (by simpa using hfit) h1
  simp only [Nat.add_zero, Array.length_toList] at hst
  rw [hcs] at hst
  have hr : (execOp a.eval o).run P w = .ok .skip (w.setRow g cs') := by
    simp [execOp, ho, hF.val hx, hF.val hy, Instr.storeAt, Instr.sureAddr, storeVar, run_sizeOf hs, hst]
  unfold Oper.wp
  rw [hr]
  refine h _ _ (hF.put0 hd _) ?_
  have hheap : ∀ k, k ≠ g → (w.setRow g cs').heap[k]? = w.heap[k]? := fun k hk => by
    simp only [World.setRow, Array.getElem?_modify]
    rw [if_neg (fun e => hk e.symm)]
  exact hS.upd i hi (row := some g) ⟨rfl, rfl, rfl, by simp [World.setRow], fun k _ hk => hheap k (fun e => hk (by rw [e]))⟩ (fun k hk => by injection hk with hk; subst hk; rfl)
    ⟨setRow_heap w g cs cs' T (0, 0) hb, (hS.holds i _ hi).2⟩ (fun k hk => .inl hk) rfl

/-- a call of a Go function, by its contract -/
theorem map_eval (hF : Fr n a σ) {xs : List Operand} {vs : List Value} (hx : xs.map (opv σ) = vs.map some) : xs.map a.eval = vs := by
  induction xs generalizing vs with
  | nil => cases vs with
    | nil => rfl
    | cons => simp at hx
  | cons x r ih => cases vs with
    | nil => simp at hx
    | cons v s =>
      simp only [List.map_cons, List.cons.injEq] at hx
      rw [List.map_cons, ih hx.2, hF.val hx.1]
def Fn (P : Program) (f : FuncId) (args : Array Value) (w : World) (Φ : Value → World → Prop) : Prop := Calls P f args w fun e w' => ∃ v, e = .returned v ∧ Φ v w'
theorem wp_call (hF : Fr n a σ) {d : Nat} (hd : o.dst = some d) (hn : Nat.blt d n = true) {f : FuncId} {xs : List Operand} {ts : Array TypeId} {vs : List Value} (ho : o.op = .call { callee := .value (.func f), args := xs.toArray, argTypes := ts })
    (hx : xs.map (opv σ) = vs.map some) (hcf : ∀ (args : Array Value) (w : World), (callFunc f args).run P w = .ok (.enter f args) w) {Φ : Value → World → Prop} (hc : Fn P f vs.toArray w Φ)
    (h : ∀ v w', Φ v w' → ∀ a', Fr n a' ((d, v) :: σ) → K a' w') : o.wp P a w K Q := by
  have hr : (execOp a.eval o).run P w = .ok (.enter f vs.toArray) w := by
    simp [execOp, ho, resolve, invoke, Deferred.ofValue, Act.eval, map_eval hF hx, hcf]
  unfold Oper.wp
  rw [hr]
  refine Calls.mono hc fun e w' he => ?_
  obtain ⟨v, rfl, hp⟩ := he
  exact h v w' hp _ (hF.put' hd hn v)

/-- append onto a row of the call's own -/
theorem wp_append {w0 : World} {H : List Chunk} (hF : Fr n a σ) (hS : Sat w0 w H) {d : Nat} (hd : o.dst = some d) (hn : Nat.blt d n = true) {x y : Operand} {t e : TypeId} {v u : Value} {xs ys : List Value} {size bytes m k : Nat} {z : Value}
    (ho : o.op = .call { callee := .builtin .append, args := #[x, y], argTypes := #[t, t] }) (hx : opv σ x = some v) (hy : opv σ y = some u)
    (i : Nat) (hi : H[i]? = some (.row e size v m xs)) (ht : sliceB P t = some e) (hinf : (P.info? e).map (fun i => (i.zero, i.size, i.bytes)) = some (some z, size, bytes)) (hz : z.cells.size = size) (hsz : 0 < size)
    (hu : Rd w size u k ys) (h1 : ∀ u ∈ ys, u.oneCell' = true) (hb : (m + k) * bytes ≤ 140737488355328) (h63 : m + k ≤ maxLen)
    (h : ∀ a' w' v', Fr n a' ((d, v') :: σ) → Sat w0 w' (H.set i (.row e size v' (m + k) (xs ++ ys))) → K a' w') : o.wp P a w K Q := by
  obtain ⟨i0, hi0, hz0, hz1, hz2⟩ := info_parts hinf
  have hown := hS.own i hi
  obtain ⟨A, c, rfl, hl, hmc, hcm, hA, hcell⟩ := hu
  have ht' := underlying_sliceB ht
  have key : ∃ v' w', (Builtin.append_ #[t, t] o.type #[v, .slice A k c]).run P w = .ok v' w' ∧ w'.ownsRow w0.heap.size e size v' (m + k) (xs ++ ys) ∧ w.grownBy w' v.ownBlock ∧ (v'.ownBlock = v.ownBlock ∨ v'.ownBlock = some w.heap.size) := by
    rcases A with _ | ad
    · have hk : k = 0 := by have := hA rfl; omega
      subst hk
      have hn : ys = [] := List.eq_nil_of_length_eq_zero (by simpa using hl)
      subst hn
      refine ⟨v, w, ?_, by simpa using hown, World.grownBy.refl w _, .inl rfl⟩
      rcases hown.2 with ⟨rfl, rfl⟩ | ⟨g, cap, cur, rfl, _, _, hnc, _⟩
      · simp [Builtin.append_, run_underlying ht', sizeOf, typeInfo, hi0, Builtin.lenOf, Builtin.firstCells]
      · simp [Builtin.append_, run_underlying ht', sizeOf, typeInfo, hi0, Builtin.lenOf, Builtin.firstCells, hnc, storeCells]
    · have hcells : ∀ j u, ys[j]? = some u → w.cell? (ad.add j) = some u := by
        intro j u hu
        rcases Nat.eq_zero_or_pos k with h0 | h0
        · subst h0
          have hn : ys = [] := List.eq_nil_of_length_eq_zero (by simpa using hl)
          subst hn
          simp at hu
        · obtain ⟨ad', h, _, hc⟩ := hcell h0
          injection h with h
          subst h
          exact hc j u hu
      obtain ⟨v', w', hrun, h2, h3, _, h5⟩ := run_append_own_at (P := P) w w0.heap.size t o.type e i0 z size bytes ht' hi0 hz0 hz1 hz2 hz hsz v m xs hown ad k c ys hl hcells h1 h63 hb hS.size
      exact ⟨v', w', hrun, h2, h3, h5⟩
  obtain ⟨v', w', hrun, h2, h3, h4⟩ := key
  have hr : (execOp a.eval o).run P w = .ok (.value v') w' := by
    simp only [execOp, ho, resolve, invoke, builtin, Sem.run_bind, Sem.run_pure, Result.andThen_ok, List.map_toArray, List.map_cons, List.map_nil, hF.val hx, hF.val hy, hrun]
  unfold Oper.wp
  rw [hr]
  refine h _ _ _ (hF.put' hd hn _) (hS.upd i hi h3 (fun g hg => hg) h2 (fun g hg => ?_) rfl)
  rcases h4 with h4 | h4
  · exact .inl (by rw [← hg]; exact h4.symm)
  · right
    have : v'.ownBlock = some g := hg
    rw [h4] at this
    injection this with this
    omega
end

/-! ### control -/
section
variable {P : Program} {n : Nat} {a : Act} {σ : List (Nat × Value)} {Q : Exit → Act → World → Prop} {w : World}
theorem c_seq {x y : Code} (h : x.wp P (Exit.then (y.wp P Q) Q) a w) : (Code.seq x y).wp P Q a w := wp_seq h
theorem c_region {id : Nat} {l : List Oper} (h : wpList P l.toArray Q l a w) : (Code.region id l.toArray false).wp P Q a w := wp_region_lit h
theorem c_nil {ops : Array Oper} {Y : Act → World → Prop} {Q' : Exit → Act → World → Prop} (h : Y a w) : wpList P ops (Exit.then Y Q') [] a w := h
theorem c_cond_t (hF : Fr n a σ) {c : Operand} {x y : Code} (hc : opv σ c = some (.bool true)) (h : x.wp P Q a w) : (Code.cond c x y).wp P Q a w := wp_cond_true (hF.val hc) h
theorem c_cond_f (hF : Fr n a σ) {c : Operand} {x y : Code} (hc : opv σ c = some (.bool false)) (h : y.wp P Q a w) : (Code.cond c x y).wp P Q a w := wp_cond_false (hF.val hc) h
theorem c_cond (hF : Fr n a σ) {c : Operand} {b : Bool} {x y : Code} (hc : opv σ c = some (.bool b)) (ht : b = true → x.wp P Q a w) (hf : b = false → y.wp P Q a w) : (Code.cond c x y).wp P Q a w := wp_cond_split (hF.val hc) ht hf
def argS : Nat → List Value → List (Nat × Value)
  | _, [] => []
  | i, v :: r => (i, v) :: argS (i + 1) r
theorem look_argS : ∀ (l : List Value) (i k : Nat) (v : Value), look (argS i l) k = some v → i ≤ k ∧ l[k - i]? = some v
  | [], i, k, v, h => by simp [argS, look] at h
  | u :: r, i, k, v, h => by
    unfold argS at h
    rw [look_cons] at h
    split at h
    · rename_i e; subst e; injection h with h; subst h; simp
    · obtain ⟨h1, h2⟩ := look_argS r (i + 1) k v h
      refine ⟨by omega, ?_⟩
      have : k - i = (k - (i + 1)) + 1 := by omega
      rw [this]; simpa using h2
theorem c_enter {f : FuncId} {fn : Func} {c : Code} {l : List Value} {w0 : World} {R : Ending → World → Prop} {N : Nat} (hf : P.funcs[f]? = some fn) (hb : fn.body = some c)
    (hN : l.length + (fn.ntmps - l.length) = N)
    (h : ∀ a w, Fr N a (argS 0 l) → Sat w0 w [] → c.wp P (bodyPost P fn R) a w) : Calls P f l.toArray w0 R := by
  refine calls_of_wp hf hb (h _ _ ⟨rfl, by simp [← hN], fun k v hk => ?_⟩ (Sat.nil w0))
  obtain ⟨_, h2⟩ := look_argS l 0 k v hk
  simp at h2
  have hlt := (List.getElem?_eq_some_iff.1 h2).1
  have h3 := (List.getElem?_eq_some_iff.1 h2).2
  have h4 : (l.toArray ++ Array.replicate (fn.ntmps - l.toArray.size) undef)[k]? = some v := by
    rw [Array.getElem?_append_left (by simpa using hlt)]; simpa using h2
  obtain ⟨h5, h6⟩ := Array.getElem?_eq_some_iff.1 h4
  rw [Array.getD]
  rw [dif_pos h5]
  exact h6
end
end Go.Proofs.Ytffaminjbcfojaa
